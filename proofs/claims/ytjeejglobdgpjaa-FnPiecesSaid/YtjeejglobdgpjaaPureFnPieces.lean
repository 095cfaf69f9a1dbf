/- The plain law of FnPieces: what the walk computes is always true. -/
import Derived.Test.YtjeejglobdgpjaaPFnPiecesx10
import Derived.Test.YtjeejglobdgpjaaTFnPiecesa
import Derived.Laws.BitsLemmas
import Derived.Lib.EndianBits
namespace Go.Proofs.Ytjeejglobdgpjaa.Pure
open Go.RowKit Go.Proofs.Ytjeejglobdgpjaa.PFnPieces Go.Proofs.YtjeejglobdgpjaaW.PrintWords Go.Proofs.YtjeejglobdgpjaaW.PrintLast Go.Proofs.YtjeejglobdgpjaaB
set_option linter.unusedVariables false
set_option linter.unusedSimpArgs false
theorem in_same : spec_l00In.f = impl_in.f := rfl
theorem in_some (a b c : Int) : impl_in.f a b c = some (decide (b ≤ a ∧ a ≤ c)) := by
  unfold impl_in.f
  by_cases h : b ≤ a <;> simp [h]
theorem valid_same (a b c d e : Int) : spec_l01Piece.f [(⟨(⟨a, b⟩ : S26), c, d, e⟩ : S28)] = impl_ValidPiece.f a b c d e := by
  unfold spec_l01Piece.f impl_ValidPiece.f impl_Cell_placed.f spec_l01In.f
  simp [in_same, in_some, rd_T28, wrap64]
theorem valid_some (a b c d e : Int) : ∃ r, impl_ValidPiece.f a b c d e = some r ∧ (r = true → 0 ≤ wrap64 c ∧ wrap64 c ≤ 5 ∧ 0 ≤ wrap64 d ∧ wrap64 d ≤ 3 ∧ 1 ≤ wrap64 e ∧ wrap64 e ≤ 9 ∧ 0 ≤ wrap64 a ∧ wrap64 a ≤ 23 ∧ 0 ≤ wrap64 b ∧ wrap64 b ≤ 23) := by
  unfold impl_ValidPiece.f impl_Cell_placed.f
  simp only [in_some, Option.bind_some]
  by_cases h1 : 0 ≤ wrap64 c ∧ wrap64 c ≤ 5 <;> by_cases h2 : 0 ≤ wrap64 d ∧ wrap64 d ≤ 3 <;> by_cases h3 : 1 ≤ wrap64 e ∧ wrap64 e ≤ 9 <;> by_cases h4 : 0 ≤ wrap64 a ∧ wrap64 a ≤ 23 <;> simp [h1, h2, h3, h4] <;> omega
theorem bytes_at {s : List Int} (hs : ∀ x ∈ s, (Lit.int .u8 x).wf = true) (i : Nat) (hi : i < s.length) : 0 ≤ rd s (i : Int) ∧ rd s (i : Int) ≤ 255 := by
  have e : rd s (i : Int) = s[i] := getD_nat s i 0 hi
  rw [e]
  exact bounds_u8 (hs _ (List.getElem_mem hi))
theorem mixed (x : Int) : 0 ≤ Go.bits .and .u64 (IntKind.u64.wrap x / 1099511627776) 255 ∧ Go.bits .and .u64 (IntKind.u64.wrap x / 1099511627776) 255 ≤ 255 := by
  have h : 0 ≤ IntKind.u64.wrap x ∧ IntKind.u64.wrap x < 18446744073709551616 := by rw [IntKind.wrap_u64]; omega
  have e : Go.bits .and .u64 (IntKind.u64.wrap x / 1099511627776) 255 = (IntKind.u64.wrap x / 1099511627776) % 256 := bits_mask .u64 64 (by decide) wraps_u64 8 (by decide) _ (by omega) (by omega)
  rw [e]
  omega
theorem next_ok (s : List Int) (hs : ∀ x ∈ s, (Lit.int .u8 x).wf = true) (hl : s.length ≤ 3000) (p u : Int) (hp : 0 ≤ p ∧ p ≤ 1000) : ∃ v u', spec_l00Src_next.f s p u = some (v, p + 1, u') ∧ 0 ≤ v ∧ v ≤ 255 := by
  obtain ⟨i, rfl⟩ := Int.eq_ofNat_of_zero_le hp.1
  unfold spec_l00Src_next.f
  rw [w64 (n := (i : Int) + 1) (by omega)]
  by_cases h1 : (i : Int) < s.length
  · have hb := bytes_at hs i (by omega)
    rw [if_pos h1, if_pos hp.1]
    by_cases h2 : (i : Int) + 1 ≤ s.length
    · rw [if_pos h2]
      exact ⟨_, _, rfl, by rw [w64 (by omega)]; exact hb.1, by rw [w64 (by omega)]; exact hb.2⟩
    · rw [if_neg h2]
      exact ⟨_, _, rfl, by rw [w64 (by have := mixed ((IntKind.u64.wrap ((IntKind.u64.wrap (u * 6364136223846793005)) + (IntKind.u64.wrap (wrap64 (rd s (i : Int)))))) + 1442695040888963407); omega)]; exact (mixed _).1, by rw [w64 (by have := mixed ((IntKind.u64.wrap ((IntKind.u64.wrap (u * 6364136223846793005)) + (IntKind.u64.wrap (wrap64 (rd s (i : Int)))))) + 1442695040888963407); omega)]; exact (mixed _).2⟩
  · rw [if_neg h1]
    by_cases h2 : (i : Int) + 1 ≤ s.length
    · rw [if_pos h2]
      exact ⟨_, _, rfl, by decide, by decide⟩
    · rw [if_neg h2]
      exact ⟨_, _, rfl, by rw [w64 (by have := mixed ((IntKind.u64.wrap ((IntKind.u64.wrap (u * 6364136223846793005)) + 0)) + 1442695040888963407); omega)]; exact (mixed _).1, by rw [w64 (by have := mixed ((IntKind.u64.wrap ((IntKind.u64.wrap (u * 6364136223846793005)) + 0)) + 1442695040888963407); omega)]; exact (mixed _).2⟩
theorem pick_ok (s : List Int) (hs : ∀ x ∈ s, (Lit.int .u8 x).wf = true) (hl : s.length ≤ 3000) (p u n : Int) (hp : 0 ≤ p ∧ p ≤ 1000) (hn : 2 ≤ n ∧ n ≤ 200) : ∃ v p' u', spec_l00Src_pick.f s p u n = some (v, p', u') ∧ 0 ≤ v ∧ v < n ∧ 0 ≤ p' ∧ p' ≤ p + 1 := by
  obtain ⟨v, u', h, h0, h1⟩ := next_ok s hs hl p u hp
  refine ⟨Int.tmod v n, p + 1, u', ?_, ?_, ?_, by omega, by omega⟩
  · unfold spec_l00Src_pick.f
    rw [if_neg (by omega), h, Option.bind_some, if_neg (by omega), if_neg (by omega)]
  · rw [tmod_nonneg n h0]; exact Int.emod_nonneg _ (by omega)
  · rw [tmod_nonneg n h0]; exact Int.emod_lt_of_pos _ (by omega)
theorem piece_ok (s : List Int) (hs : ∀ x ∈ s, (Lit.int .u8 x).wf = true) (hl : s.length ≤ 3000) : ∃ a b c d e, spec_A2Piece.f s = some (a, b, c, d, e) ∧ (0 ≤ a ∧ a ≤ 5) ∧ (0 ≤ b ∧ b ≤ 5) ∧ (0 ≤ c ∧ c ≤ 5) ∧ (0 ≤ d ∧ d ≤ 3) ∧ (1 ≤ e ∧ e ≤ 4) := by
  obtain ⟨v1, p1, u1, h1, a1, b1, c1, d1⟩ := pick_ok s hs hl 0 0 6 (by omega) (by omega)
  obtain ⟨v2, p2, u2, h2, a2, b2, c2, d2⟩ := pick_ok s hs hl p1 u1 6 (by omega) (by omega)
  obtain ⟨v3, p3, u3, h3, a3, b3, c3, d3⟩ := pick_ok s hs hl p2 u2 6 (by omega) (by omega)
  obtain ⟨v4, p4, u4, h4, a4, b4, c4, d4⟩ := pick_ok s hs hl p3 u3 4 (by omega) (by omega)
  obtain ⟨v5, p5, u5, h5, a5, b5, c5, d5⟩ := pick_ok s hs hl p4 u4 3 (by omega) (by omega)
  obtain ⟨v6, p6, u6, h6, a6, b6, c6, d6⟩ := pick_ok s hs hl p5 u5 4 (by omega) (by omega)
  unfold spec_A2Piece.f spec_l00From.f spec_l01PieceDrawn.f spec_l00Src_one.f
  simp only [Option.bind_some, h1, h2, h3, h4, h5]
  rw [w8 (n := v1) (by omega), w8 (n := v2) (by omega), w8 (n := v3) (by omega), w8 (n := v4) (by omega)]
  by_cases h : (v5 == 0) = true
  · rw [if_pos h]
    simp only [h6, Option.bind_some]
    refine ⟨_, _, _, _, _, rfl, by omega, by omega, by omega, by omega, ?_⟩
    rw [w64 (n := 1 + v6) (by omega), w8 (n := 1 + v6) (by omega)]
    omega
  · rw [if_neg h]
    simp only [Option.bind_some]
    exact ⟨_, _, _, _, _, rfl, by omega, by omega, by omega, by omega, by omega⟩
theorem at_ok (s : List Int) (hs : ∀ x ∈ s, (Lit.int .u8 x).wf = true) : ∃ t, laws_a2At.f s 0 20 = some t ∧ 0 ≤ t ∧ t ≤ 19 := by
  unfold laws_a2At.f
  by_cases h : (0 : Int) ≥ s.length
  · rw [if_pos h]; exact ⟨0, rfl, by omega, by omega⟩
  · have hb := bytes_at hs 0 (by omega)
    have e : wrap64 (rd s 0) = rd s 0 := w64 (by have := hb.1; have := hb.2; simp only [Int.natCast_zero] at *; omega)
    rw [if_neg h, if_neg (by omega), if_pos (by omega), if_pos (by omega), if_neg (by omega), e]
    have hb0 : 0 ≤ rd s 0 := hb.1
    refine ⟨_, rfl, ?_, ?_⟩ <;> rw [tmod_nonneg 20 hb0] <;> omega
theorem valid_yes (a b c d e : Int) (ha : 0 ≤ a ∧ a ≤ 23) (hb : 0 ≤ b ∧ b ≤ 23) (hc : 0 ≤ c ∧ c ≤ 5) (hd : 0 ≤ d ∧ d ≤ 3) (he : 1 ≤ e ∧ e ≤ 9) : impl_ValidPiece.f a b c d e = some true := by
  unfold impl_ValidPiece.f impl_Cell_placed.f
  simp only [in_some, Option.bind_some]
  rw [w64 (n := a) (by omega), w64 (n := b) (by omega), w64 (n := c) (by omega), w64 (n := d) (by omega), w64 (n := e) (by omega)]
  simp [ha, hb, hc, hd, he]
/-- A turn by some quarters. -/
def tn (d q : Int) : Int := (d + q) % 4
theorem tn_in (d q : Int) : 0 ≤ tn d q ∧ tn d q ≤ 3 := by unfold tn; omega
theorem quarter_is (d q : Int) (hd : 0 ≤ d ∧ d ≤ 3) (hq : -100 ≤ q ∧ q ≤ 100) : IntKind.i8.wrap (Int.tmod (wrap64 ((wrap64 d) + (Int.tmod (wrap64 ((Int.tmod q 4) + 4)) 4))) 4) = tn d q := by
  have h2 : ∀ a : Int, Int.tmod a 4 = if 0 ≤ a then a % 4 else -((-a) % 4) := fun a => by
    by_cases h : 0 ≤ a
    · rw [if_pos h, tmod_nonneg 4 h]
    · rw [if_neg h, tmod_neg 4 (by omega)]
  have h3 : -3 ≤ Int.tmod q 4 ∧ Int.tmod q 4 ≤ 3 := by rw [h2]; split <;> omega
  have h5 : 0 ≤ Int.tmod (Int.tmod q 4 + 4) 4 ∧ Int.tmod (Int.tmod q 4 + 4) 4 ≤ 3 := by rw [h2 (Int.tmod q 4 + 4)]; split <;> omega
  rw [w64 (n := d) (by omega), w64 (n := Int.tmod q 4 + 4) (by omega), w64 (n := d + Int.tmod (Int.tmod q 4 + 4) 4) (by omega)]
  have e : Int.tmod (d + Int.tmod (Int.tmod q 4 + 4) 4) 4 = tn d q := by
    unfold tn
    simp only [h2]
    split <;> split <;> split <;> omega
  rw [e, w8 (by have := tn_in d q; omega)]
theorem quarter_spec (d q : Int) (hd : 0 ≤ d ∧ d ≤ 3) (hq : -100 ≤ q ∧ q ≤ 100) : IntKind.i8.wrap (Int.tmod (wrap64 ((Int.tmod (wrap64 ((wrap64 d) + q)) 4) + 4)) 4) = tn d q := by
  have h2 : ∀ a : Int, Int.tmod a 4 = if 0 ≤ a then a % 4 else -((-a) % 4) := fun a => by
    by_cases h : 0 ≤ a
    · rw [if_pos h, tmod_nonneg 4 h]
    · rw [if_neg h, tmod_neg 4 (by omega)]
  have h4 : -3 ≤ Int.tmod (d + q) 4 ∧ Int.tmod (d + q) 4 ≤ 3 := by rw [h2]; split <;> omega
  rw [w64 (n := d) (by omega), w64 (n := d + q) (by omega), w64 (n := Int.tmod (d + q) 4 + 4) (by omega)]
  have e : Int.tmod (Int.tmod (d + q) 4 + 4) 4 = tn d q := by
    unfold tn
    simp only [h2]
    split <;> split <;> omega
  rw [e, w8 (by have := tn_in d q; omega)]
theorem turn_is (a b c d e q : Int) (ha : 0 ≤ a ∧ a ≤ 23) (hb : 0 ≤ b ∧ b ≤ 23) (hc : 0 ≤ c ∧ c ≤ 5) (hd : 0 ≤ d ∧ d ≤ 3) (he : 1 ≤ e ∧ e ≤ 9) (hq : -100 ≤ q ∧ q ≤ 100) : impl_TurnPiece.f a b c d e q = some (a, b, c, tn d q, e, 0) := by
  unfold impl_TurnPiece.f impl_quartersOk.f impl_turns.f impl_Piece_turned.f
  simp only [valid_yes a b c d e ha hb hc hd he, in_some, Option.bind_some]
  rw [if_pos trivial, if_pos (by simpa using hq), quarter_is d q hd hq]
theorem turn_spec (a b c d e q : Int) (ha : 0 ≤ a ∧ a ≤ 23) (hb : 0 ≤ b ∧ b ≤ 23) (hc : 0 ≤ c ∧ c ≤ 5) (hd : 0 ≤ d ∧ d ≤ 3) (he : 1 ≤ e ∧ e ≤ 9) (hq : -100 ≤ q ∧ q ≤ 100) : spec_TurnPiece.f a b c d e q = some (a, b, c, tn d q, e, 0) := by
  unfold spec_TurnPiece.f spec_l01Quarters.f
  simp only [valid_same, valid_yes a b c d e ha hb hc hd he, in_same, in_some, Option.bind_some]
  rw [if_pos trivial, if_pos (by simpa using hq), quarter_spec d q hd hq]
section
variable (a b c e : Int) (ha : 0 ≤ a ∧ a ≤ 23) (hb : 0 ≤ b ∧ b ≤ 23) (he : 1 ≤ e ∧ e ≤ 9)
include ha hb he
theorem nV (d : Int) : impl_ValidPiece.f a b c d e = impl_ValidPiece.f 0 0 c d 1 := by
  have r1 : impl_in.f (wrap64 e) 1 9 = impl_in.f (wrap64 1) 1 9 := by rw [in_some, in_some, w64 (n := e) (by omega), w64 (n := 1) (by omega), decide_eq_true he]; rfl
  have r2 : impl_Cell_placed.f a b = impl_Cell_placed.f 0 0 := by
    unfold impl_Cell_placed.f
    rw [in_some, in_some, in_some, w64 (n := a) (by omega), w64 (n := b) (by omega), decide_eq_true ha, decide_eq_true hb, w64 (n := 0) (by omega)]
    rfl
  unfold impl_ValidPiece.f
  rw [r1, r2]
theorem nOk (d s : Int) : impl_pieceOk.f a b c d e s = impl_pieceOk.f 0 0 c d 1 s := by unfold impl_pieceOk.f; rw [nV a b c e ha hb he]
theorem nAsk (d s : Int) : spec_l01Asked.f [(⟨(⟨a, b⟩ : S26), c, d, e⟩ : S28)] s = spec_l01Asked.f [(⟨(⟨0, 0⟩ : S26), c, d, 1⟩ : S28)] s := by
  unfold spec_l01Asked.f
  rw [valid_same, valid_same, nV a b c e ha hb he]
theorem nF (k : Nat) (d s : Int) : impl_FallsFrom.f k a b c d e s = impl_FallsFrom.f k 0 0 c d 1 s := by unfold impl_FallsFrom.f; rw [nOk a b c e ha hb he]; rfl
theorem nH (k : Nat) (d s : Int) : impl_HitsFrom.f k a b c d e s = impl_HitsFrom.f k 0 0 c d 1 s := by unfold impl_HitsFrom.f; rw [nOk a b c e ha hb he]; rfl
theorem nSF (k : Nat) (d s : Int) : spec_FallsFrom.f k a b c d e s = spec_FallsFrom.f k 0 0 c d 1 s := by unfold spec_FallsFrom.f; rw [nAsk a b c e ha hb he]; rfl
theorem nSH (k : Nat) (d s : Int) : spec_HitsFrom.f k a b c d e s = spec_HitsFrom.f k 0 0 c d 1 s := by unfold spec_HitsFrom.f; rw [nAsk a b c e ha hb he]; rfl
omit ha hb he in
theorem nAl0 (d d' : Int) : ∀ (k : Nat) (s : Int), impl_AlikePieces.l0 k s a b c d e a b c d' e = impl_AlikePieces.l0 k s 0 0 c d 1 0 0 c d' 1 := by
  have hp : ∀ k d s, impl_Piece_falls.f k a b c d e s = impl_Piece_falls.f k 0 0 c d 1 s := fun _ _ _ => rfl
  intro k
  induction k with
  | zero => intro s; rfl
  | succ k ih => intro s; simp only [impl_AlikePieces.l0, hp, ih, beq_self_eq_true]
theorem nAl (k : Nat) (d d' : Int) : impl_AlikePieces.f k a b c d e a b c d' e = impl_AlikePieces.f k 0 0 c d 1 0 0 c d' 1 := by
  have hj : ∀ x, impl_AlikePieces.j0 k x a b c d e a b c d' e = impl_AlikePieces.j0 k x 0 0 c d 1 0 0 c d' 1 := by
    intro x
    cases k with
    | zero => rfl
    | succ k => simp only [impl_AlikePieces.j0, nAl0]
  unfold impl_AlikePieces.f
  rw [nV a b c e ha hb he, nV a b c e ha hb he]
  simp only [hj]
theorem nLaw (d d' x6 : Int) : ∀ k : Nat, (∀ x15 x16, laws_FnPieces.l0 k x6 x15 x16 a b c d e a b c d' e = laws_FnPieces.l0 k x6 x15 x16 0 0 c d 1 0 0 c d' 1) ∧ (∀ x15 x16, laws_FnPieces.j4 k x6 x15 x16 a b c d e a b c d' e = laws_FnPieces.j4 k x6 x15 x16 0 0 c d 1 0 0 c d' 1) ∧
    (∀ x15 x16 y1 y2 z1 z2 z3 z4 z5 z6 z7 z8 z9 z10 z11 z12, laws_FnPieces.j5 k x6 x15 x16 y1 y2 a b c d e a b c d' e z1 z2 z3 z4 z5 z6 z7 z8 z9 z10 z11 z12 = laws_FnPieces.j5 k x6 x15 x16 y1 y2 0 0 c d 1 0 0 c d' 1 z1 z2 z3 z4 z5 z6 z7 z8 z9 z10 z11 z12) ∧
    (∀ x15 x16 y1 y2 i z1 z2 z3 z4 z5 z6 z7 z8 z9 z10 z11 z12, laws_FnPieces.l1 k x6 x15 x16 y1 y2 i a b c d e a b c d' e z1 z2 z3 z4 z5 z6 z7 z8 z9 z10 z11 z12 = laws_FnPieces.l1 k x6 x15 x16 y1 y2 i 0 0 c d 1 0 0 c d' 1 z1 z2 z3 z4 z5 z6 z7 z8 z9 z10 z11 z12) := by
  intro k
  induction k with
  | zero => exact ⟨fun _ _ => rfl, fun _ _ => rfl, fun _ _ _ _ _ _ _ _ _ _ _ _ _ _ _ _ => rfl, fun _ _ _ _ _ _ _ _ _ _ _ _ _ _ _ _ _ => rfl⟩
  | succ k ih =>
    obtain ⟨i1, i2, i3, i4⟩ := ih
    refine ⟨?_, ?_, ?_, ?_⟩
    · intros; simp only [laws_FnPieces.l0, i2, nAl a b c e ha hb he]
    · intros; simp only [laws_FnPieces.j4, i3, nF a b c e ha hb he, nH a b c e ha hb he, nSF a b c e ha hb he, nSH a b c e ha hb he]
    · intros; simp only [laws_FnPieces.j5, i4]
    · intros; simp only [laws_FnPieces.l1, i1, i4]
end
def allQ : List Int := [-10, -9, -8, -7, -6, -5, -4, -3, -2, -1, 0, 1, 2, 3, 4, 5, 6, 7, 8, 9]
set_option maxRecDepth 100000 in
theorem law_all : ∀ c ∈ ([0, 1, 2, 3, 4, 5] : List Int), ∀ d ∈ ([0, 1, 2, 3] : List Int), ∀ q ∈ allQ, laws_FnPieces.l0 60 q true 0 0 0 c d 1 0 0 c (tn d q) 1 = some true := by decide +kernel
theorem FnPieces : laws_FnPieces.Pure := by
  intro l0 l1 _ _ h0 _ _ h1
  refine ⟨62, ?_⟩
  unfold laws_FnPieces.f laws_a2Long.f
  by_cases c0 : (l0.length : Int) > 3000
  · rw [if_pos c0]; rfl
  rw [if_neg c0, Option.bind_some]
  by_cases c1 : (l1.length : Int) > 3000
  · rw [if_pos (by simpa using c1)]
  rw [if_neg (by simpa using c1)]
  obtain ⟨a, b, c, d, e, hp, ha, hb, hc, hd, he⟩ := piece_ok l0 h0 (by omega)
  obtain ⟨t, ht, t0, t1⟩ := at_ok l1 h1
  have ht' := tn_in d (t - 10)
  have hback : tn (tn d (t - 10)) (-(t - 10)) = d := by unfold tn; omega
  have hwhole : tn d 4 = d := by unfold tn; omega
  rw [laws_FnPieces.j0, hp]
  simp only [Option.bind_some, ht]
  rw [w64 (n := t - 10) (by omega), w64 (n := -(t - 10)) (by omega)]
  rw [turn_is a b c d e (t - 10) (by omega) (by omega) hc hd (by omega) (by omega), turn_spec a b c d e (t - 10) (by omega) (by omega) hc hd (by omega) (by omega), turn_is a b c d e 4 (by omega) (by omega) hc hd (by omega) (by omega)]
  simp only [Option.bind_some]
  rw [turn_is a b c (tn d (t - 10)) e (-(t - 10)) (by omega) (by omega) hc ht' (by omega) (by omega), hback, hwhole]
  simp only [Option.bind_some, valid_yes a b c d e (by omega) (by omega) hc hd (by omega), valid_yes a b c (tn d (t - 10)) e (by omega) (by omega) hc ht' (by omega)]
  simp only [beq_self_eq_true, Bool.not_true, Bool.or_self, if_true, Bool.false_eq_true, if_false]
  rw [laws_FnPieces.j1, (nLaw a b c e (by omega) (by omega) (by omega) d (tn d (t - 10)) (t - 10) 60).1]
  have mc : c ∈ ([0, 1, 2, 3, 4, 5] : List Int) := by
    have : c = 0 ∨ c = 1 ∨ c = 2 ∨ c = 3 ∨ c = 4 ∨ c = 5 := by omega
    rcases this with rfl | rfl | rfl | rfl | rfl | rfl <;> decide
  have md : d ∈ ([0, 1, 2, 3] : List Int) := by
    have : d = 0 ∨ d = 1 ∨ d = 2 ∨ d = 3 := by omega
    rcases this with rfl | rfl | rfl | rfl <;> decide
  have mq : ∀ q : Int, -10 ≤ q → q ≤ 9 → q ∈ allQ := fun q q0 q1 => by unfold allQ; simp only [List.mem_cons, List.not_mem_nil, or_false]; omega
  exact law_all c mc d md (t - 10) (mq _ (by omega) (by omega))
end Go.Proofs.Ytjeejglobdgpjaa.Pure
