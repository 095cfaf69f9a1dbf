/- The pure side of the law FnExactBoardText: for all arguments its Lean function answers true. No condition beside the arguments' kinds. -/
import Derived.Test.YtnbjijkpenlpbaaDoorQFnExactBoardText
import Derived.Test.YtnbjijkpenlpbaaDoorTFnExactBoardTexta
namespace Go.Proofs.YtnbjijkpenlpbaaDoor.Pure
open Go.RowKit Go.Proofs.YtnbjijkpenlpbaaDoor.PFnExactBoardText Go.Proofs.YtnbjijkpenlpbaaDoorW.PrintWords Go.Proofs.YtnbjijkpenlpbaaDoorW.PrintLast Go.Proofs.YtnbjijkpenlpbaaDoorX Go.Proofs.YtnbjijkpenlpbaaDoor.QFnExactBoardText Go.Proofs.YtnbjijkpenlpbaaDoorB
set_option linter.unusedVariables false
set_option linter.unusedSimpArgs false

theorem szPieceS (l0 : List (S91)) (a_ : Int) (ha : 0 ≤ a_ ∧ a_ ≤ 1048576) (hl0 : l0.length ≤ 9223372036854775807) : ∃ r, laws_szPieceS.f l0 a_ = some r ∧ (r < 0 ∨ (r = a_ - l0.length ∧ 0 ≤ r)) := by
  unfold laws_szPieceS.f
  rw [w64 (n := a_ - l0.length) (by omega)]
  by_cases h : a_ - (l0.length : Int) < 0
  · exact ⟨-1, by rw [if_pos h], .inl (by omega)⟩
  · exact ⟨_, by rw [if_neg h], .inr ⟨rfl, by omega⟩⟩
theorem szBoard (a0_0 : Int) (a0_1 : Int) (l0_2 : List (S91)) (a_ : Int) (ha : 0 ≤ a_ ∧ a_ ≤ 1048576) (hl0_2 : l0_2.length ≤ 9223372036854775807) : ∃ r, laws_szBoard.f a0_0 a0_1 l0_2 a_ = some r ∧ (r < 0 ∨ (r = a_ - l0_2.length ∧ 0 ≤ r)) := by
  unfold laws_szBoard.f
  obtain ⟨r0, e0, c0⟩ := szPieceS l0_2 (a_) (by omega) hl0_2
  rw [e0]
  simp only [Option.bind_some]
  rcases c0 with c0 | ⟨rfl, c0⟩
  · exact ⟨-1, by rw [if_pos c0], .inl (by omega)⟩
  rw [if_neg (by omega)]
  exact ⟨_, rfl, .inr ⟨rfl, by omega⟩⟩
theorem toCell (a0_0 : Int) (a0_1 : Int)  : Ev (fun k => laws_toCell.f k a0_0 a0_1) (a0_0, a0_1) := by
  refine ⟨3, fun k hk => ?_⟩
  obtain ⟨m, rfl⟩ : ∃ m, k = m + 3 := ⟨k - 3, by omega⟩
  simp [laws_toCell.f, laws_toCell.l0, wrap64]
theorem toPiece (a0_0 : Int) (a0_1 : Int) (a0_2 : Int) (a0_3 : Int) (a0_4 : Int)  : Ev (fun k => laws_toPiece.f k a0_0 a0_1 a0_2 a0_3 a0_4) (a0_0, a0_1, a0_2, a0_3, a0_4) := by
  unfold laws_toPiece.f
  exact (Ev.bind (toCell _ _ ) (Ev.now _))
def cv42_43 (x : S42) : S43 := ⟨x.f0, x.f1⟩
def cv91_85 (x : S91) : S85 := ⟨cv42_43 x.f0, x.f1, x.f2, x.f3⟩
theorem toPieceS (l0 : List (S91)) (hl0 : l0.length ≤ 1099511627776) : Ev (fun k => laws_toPieceS.f k l0) (l0.map cv91_85) := by
  suffices main : Ev (fun k => laws_toPieceS.f k l0) (l0.map cv91_85) by exact main
  unfold laws_toPieceS.f
  refine Ev.iteT (by omega) (Ev.iteT (by omega) ?_)
  rw [Int.toNat_natCast]
  refine ev_fill2 (g := fun k x i => laws_toPieceS.l0 k l0 x i) cv91_85 l0 _ (Ev.step (f := fun _ => some _) (fun k => by simp [laws_toPieceS.l0]) (Ev.now _)) fun i h x hx ih => ?_
  have eg : l0.getD i z91 = l0[i] := getD_at _ _ _ h
  refine Ev.step (fun k => by rw [laws_toPieceS.l0]) (Ev.iteT (by omega) (Ev.iteT (by omega) ?_))
  simp only [rd_T91, Int.toNat_natCast, eg]
  refine Ev.bind (toPiece _ _ _ _ _ ) ?_
  refine Ev.iteT (by omega) ?_
  rw [w64 (by omega)]
  exact ih
theorem toBoard (a0_0 : Int) (a0_1 : Int) (l0_2 : List (S91)) (hl0_2 : l0_2.length ≤ 1099511627776) : Ev (fun k => laws_toBoard.f k a0_0 a0_1 l0_2) (a0_0, a0_1, (l0_2.map cv91_85)) := by
  unfold laws_toBoard.f
  exact (Ev.bind (toPieceS _ (by first | omega | ((try dsimp only); (try simp only [List.length_map, List.length_range, List.length_nil]); omega) | (simp; omega))) (Ev.now _))
theorem eqCell (a0_0 : Int) (a0_1 : Int)  : Ev (fun k => laws_eqCell.f k a0_0 a0_1 a0_0 a0_1) true := by
  refine ⟨3, fun k hk => ?_⟩
  obtain ⟨m, rfl⟩ : ∃ m, k = m + 3 := ⟨k - 3, by omega⟩
  simp [laws_eqCell.f, laws_eqCell.l0, wrap64]
theorem eqPiece (a0_0 : Int) (a0_1 : Int) (a0_2 : Int) (a0_3 : Int) (a0_4 : Int)  : Ev (fun k => laws_eqPiece.f k a0_0 a0_1 a0_2 a0_3 a0_4 a0_0 a0_1 a0_2 a0_3 a0_4) true := by
  unfold laws_eqPiece.f
  exact (Ev.bind (eqCell _ _ ) (Ev.iteT rfl (Ev.iteT rfl (Ev.iteT rfl (Ev.iteT rfl (Ev.now _))))))
theorem eqPieceS (l0 : List (S85)) (hl0 : l0.length ≤ 1099511627776) : Ev (fun k => laws_eqPieceS.f k l0 l0) true := by
  unfold laws_eqPieceS.f
  refine Ev.iteT rfl ?_
  refine ev_loop2 (g := fun k i => laws_eqPieceS.l0 k l0 l0 i) (fun i => (i : Int)) l0.length (Ev.step (f := fun _ => some _) (fun k => by simp [laws_eqPieceS.l0]) (Ev.now _)) fun i h ih => ?_
  refine Ev.step (fun k => by rw [laws_eqPieceS.l0]) (Ev.iteT (by omega) (Ev.iteT (by omega) (Ev.iteT (by omega) ?_)))
  refine Ev.bind (eqPiece _ _ _ _ _ ) (Ev.iteT rfl ?_)
  rw [w64 (by omega)]
  exact ih
theorem eqBoard (a0_0 : Int) (a0_1 : Int) (l0_2 : List (S85)) (hl0_2 : l0_2.length ≤ 1099511627776) : Ev (fun k => laws_eqBoard.f k a0_0 a0_1 l0_2 a0_0 a0_1 l0_2) true := by
  unfold laws_eqBoard.f
  exact (Ev.iteT rfl (Ev.iteT rfl (Ev.bind (eqPieceS _ (by first | omega | ((try dsimp only); (try simp only [List.length_map, List.length_range, List.length_nil]); omega) | (simp; omega))) (Ev.iteT rfl (Ev.now _)))))
def ok43 (x : S43) : Prop := (-128 ≤ x.f0 ∧ x.f0 ≤ 127) ∧ (-128 ≤ x.f1 ∧ x.f1 ≤ 127)
def ok85 (x : S85) : Prop := ok43 x.f0 ∧ (-128 ≤ x.f1 ∧ x.f1 ≤ 127) ∧ (-128 ≤ x.f2 ∧ x.f2 ≤ 127) ∧ (-128 ≤ x.f3 ∧ x.f3 ≤ 127)
theorem okof42_43 {x : S42} (h : wf42 x) : ok43 (cv42_43 x) := by
  obtain ⟨h0, h1⟩ := h
  exact ⟨(i8b h0), (i8b h1)⟩
theorem okof91_85 {x : S91} (h : wf91 x) : ok85 (cv91_85 x) := by
  obtain ⟨h0, h1, h2, h3⟩ := h
  exact ⟨(okof42_43 h0), (i8b h1), (i8b h2), (i8b h3)⟩
theorem in_same : spec_l00In.f = impl_in.f := rfl
theorem in_some (a b c : Int) : impl_in.f a b c = some (decide (b ≤ a ∧ a ≤ c)) := by
  unfold impl_in.f
  by_cases h : b ≤ a <;> simp [h]

theorem rd0 (a b : Int) (l : List (S85)) : rd_T37 [(⟨a, b, l⟩ : S37)] 0 = ⟨a, b, l⟩ := id rfl
theorem rdp (l : List (S85)) (i : Nat) : rd_T85 l (i : Int) = l.getD i z85 := id rfl
def VP (p : S85) : Prop := (0 ≤ p.f1 ∧ p.f1 ≤ 5) ∧ (0 ≤ p.f2 ∧ p.f2 ≤ 3) ∧ (1 ≤ p.f3 ∧ p.f3 ≤ 9) ∧ (0 ≤ p.f0.f0 ∧ p.f0.f0 ≤ 23) ∧ (0 ≤ p.f0.f1 ∧ p.f0.f1 ≤ 23)
instance (p : S85) : Decidable (VP p) := by unfold VP; infer_instance
theorem valid_dec (a b c d e : Int) (ha : -128 ≤ a ∧ a ≤ 127) (hb : -128 ≤ b ∧ b ≤ 127) (hc : -128 ≤ c ∧ c ≤ 127) (hd : -128 ≤ d ∧ d ≤ 127) (he : -128 ≤ e ∧ e ≤ 127) : impl_ValidPiece.f a b c d e = some (decide (VP ⟨⟨a, b⟩, c, d, e⟩)) := by
  unfold impl_ValidPiece.f impl_Cell_placed.f
  simp only [in_some, Option.bind_some]
  rw [w64 (n := a) (by omega), w64 (n := b) (by omega), w64 (n := c) (by omega), w64 (n := d) (by omega), w64 (n := e) (by omega)]
  by_cases h1 : 0 ≤ c ∧ c ≤ 5 <;> by_cases h2 : 0 ≤ d ∧ d ≤ 3 <;> by_cases h3 : 1 ≤ e ∧ e ≤ 9 <;> by_cases h4 : 0 ≤ a ∧ a ≤ 23 <;> simp [VP, h1, h2, h3, h4]
theorem impl_valid {p : S85} (hp : ok85 p) : impl_ValidPiece.f p.f0.f0 p.f0.f1 p.f1 p.f2 p.f3 = some (decide (VP p)) := by
  obtain ⟨⟨a, b⟩, c, d, e⟩ := p
  obtain ⟨⟨h0, h1⟩, h2, h3, h4⟩ := hp
  exact valid_dec a b c d e h0 h1 h2 h3 h4
theorem spec_valid {p : S85} (hp : ok85 p) : spec_l01Piece.f [p] = some (decide (VP p)) := by
  rw [← impl_valid hp]
  obtain ⟨⟨a, b⟩, c, d, e⟩ := p
  unfold spec_l01Piece.f impl_ValidPiece.f impl_Cell_placed.f spec_l01In.f
  simp [in_same, in_some, rd_T85, wrap64]
theorem spec_in (a b w h : Int) (ha : -128 ≤ a ∧ a ≤ 127) (hb : -128 ≤ b ∧ b ≤ 127) (hw : -128 ≤ w ∧ w ≤ 127) (hh : -128 ≤ h ∧ h ≤ 127) : spec_l01In.f a b w h = some (decide ((0 ≤ a ∧ a < w) ∧ 0 ≤ b ∧ b < h)) := by
  unfold spec_l01In.f
  simp only [in_same, in_some, Option.bind_some]
  rw [w64 (n := a) (by omega), w64 (n := b) (by omega), w64 (n := w - 1) (by omega), w64 (n := h - 1) (by omega)]
  have e1 : (0 ≤ a ∧ a ≤ w - 1) ↔ (0 ≤ a ∧ a < w) := by omega
  have e2 : (0 ≤ b ∧ b ≤ h - 1) ↔ (0 ≤ b ∧ b < h) := by omega
  simp only [e1, e2]
  by_cases h1 : 0 ≤ a ∧ a < w <;> simp [h1]
theorem impl_has (w h : Int) (l : List (S85)) (a b : Int) : impl_Board_has.f [(⟨w, h, l⟩ : S37)] a b = some (decide ((0 ≤ a ∧ a < w) ∧ 0 ≤ b ∧ b < h)) := by
  unfold impl_Board_has.f
  simp only [rd0]
  by_cases h1 : 0 ≤ a <;> by_cases h2 : a < w <;> by_cases h3 : 0 ≤ b <;> simp [h1, h2, h3]
/-- A piece stands in a cell. -/
def At (l : List (S85)) (x y : Int) (i : Nat) : Prop := (l.getD i z85).f0.f0 = x ∧ (l.getD i z85).f0.f1 = y
def Found (l : List (S85)) (x y r : Int) : Prop := (r = -1 ∧ ∀ i : Nat, i < l.length → ¬ At l x y i) ∨ ∃ j : Nat, j < l.length ∧ r = (j : Int) ∧ At l x y j ∧ ∀ i : Nat, i < j → ¬ At l x y i
theorem Found.same {l : List (S85)} {x y r q : Int} (h : Found l x y r) (k : Found l x y q) : r = q := by
  rcases h with ⟨rfl, h⟩ | ⟨j, h1, rfl, h2, h3⟩ <;> rcases k with ⟨rfl, k⟩ | ⟨i, k1, rfl, k2, k3⟩
  · rfl
  · exact absurd k2 (h i k1)
  · exact absurd h2 (k j h1)
  · rcases Nat.lt_trichotomy i j with c | c | c
    · exact absurd k2 (h3 i c)
    · rw [c]
    · exact absurd h2 (k3 j c)
theorem Found.range {l : List (S85)} {x y r : Int} (h : Found l x y r) : -1 ≤ r ∧ r < l.length := by
  rcases h with ⟨rfl, h⟩ | ⟨j, h1, rfl, h2, h3⟩ <;> omega
theorem found_first (l : List (S85)) (x y : Int) : (∀ i : Nat, i < l.length → ¬ At l x y i) ∨ ∃ j : Nat, j < l.length ∧ At l x y j ∧ ∀ i : Nat, i < j → ¬ At l x y i := by
  have : DecidablePred fun i => ¬ At l x y i := fun _ => Classical.propDecidable _
  rcases first_or_all (fun i => ¬ At l x y i) l.length with h | ⟨j, h1, h2, h3⟩
  · exact .inl h
  · exact .inr ⟨j, h1, Classical.not_not.1 h2, h3⟩
theorem at_cond (l : List (S85)) (x y : Int) (i : Nat) : (((l.getD i z85).f0.f0 == x && (l.getD i z85).f0.f1 == y) = true) ↔ At l x y i := by simp [At]
theorem find_spec (w h : Int) (l : List (S85)) (x y : Int) (hl : l.length ≤ 1048576) : ∃ r, Ev (fun k => spec_l01Find.f k [(⟨w, h, l⟩ : S37)] x y) r ∧ Found l x y r := by
  unfold spec_l01Find.f
  rcases found_first l x y with hh | ⟨j, h1, h2, h3⟩
  · refine ⟨-1, ev_loop2 (g := fun k i => spec_l01Find.l0 k [(⟨w, h, l⟩ : S37)] i x y) (fun i => (i : Int)) l.length ?_ fun i hi ih => ?_, .inl ⟨rfl, hh⟩⟩
    · refine Ev.step (fun k => by rw [spec_l01Find.l0]) ?_
      simp only [rd0]
      exact Ev.iteT (by simp) (Ev.iteF (by omega) (Ev.now _))
    · refine Ev.step (fun k => by rw [spec_l01Find.l0]) ?_
      simp only [rd0, rdp]
      refine Ev.iteT (by simp) (Ev.iteT (by omega) (Ev.iteT (by omega) (Ev.iteF (fun c => hh i hi ((at_cond l x y i).1 c)) ?_)))
      rw [w64 (by omega)]
      exact ih
  · refine ⟨(j : Int), ev_loop2 (g := fun k i => spec_l01Find.l0 k [(⟨w, h, l⟩ : S37)] i x y) (fun i => (i : Int)) j ?_ fun i hi ih => ?_, .inr ⟨j, h1, rfl, h2, h3⟩⟩
    · refine Ev.step (fun k => by rw [spec_l01Find.l0]) ?_
      simp only [rd0, rdp]
      exact Ev.iteT (by simp) (Ev.iteT (by omega) (Ev.iteT (by omega) (Ev.iteT ((at_cond l x y j).2 h2) (Ev.now _))))
    · refine Ev.step (fun k => by rw [spec_l01Find.l0]) ?_
      simp only [rd0, rdp]
      refine Ev.iteT (by simp) (Ev.iteT (by omega) (Ev.iteT (by omega) (Ev.iteF (fun c => h3 i hi ((at_cond l x y i).1 c)) ?_)))
      rw [w64 (by omega)]
      exact ih
/-- What is right of the piece at a place. -/
def Good (w h : Int) (l : List (S85)) (i : Nat) : Prop := VP (l.getD i z85) ∧ ((0 ≤ (l.getD i z85).f0.f0 ∧ (l.getD i z85).f0.f0 < w) ∧ 0 ≤ (l.getD i z85).f0.f1 ∧ (l.getD i z85).f0.f1 < h) ∧ ∀ j, j < i → ¬ At l (l.getD i z85).f0.f0 (l.getD i z85).f0.f1 j
structure BoardOk (w h : Int) (l : List (S85)) : Prop where
  wide : 1 ≤ w ∧ w ≤ 24
  high : 1 ≤ h ∧ h ≤ 24
  len : l.length ≤ 200
  piece : ∀ i : Nat, i < l.length → Good w h l i
theorem spec_ok (w h : Int) (l : List (S85)) (hw : -128 ≤ w ∧ w ≤ 127) (hh : -128 ≤ h ∧ h ≤ 127) (hx : ∀ y ∈ l, ok85 y) (hl : l.length ≤ 1048576) :
    ∃ r, Ev (fun k => spec_l01Ok.f k [(⟨w, h, l⟩ : S37)]) r ∧ (r = true ↔ BoardOk w h l) := by
  have hj : Ev (fun k => spec_l01Ok.j0 k [(⟨w, h, l⟩ : S37)] true) false := Ev.step (f := fun _ => some false) (fun k => by simp [spec_l01Ok.j0]) (Ev.now _)
  have key : ∃ s, Ev (fun k => spec_l01Ok.l0 k [(⟨w, h, l⟩ : S37)] 0) s ∧ (s = true ↔ (∀ i : Nat, i < l.length → Good w h l i) ∧ True) := by
    refine ev_scanB (g := fun k i => spec_l01Ok.l0 k [(⟨w, h, l⟩ : S37)] i) (r := true) (fun i => Good w h l i) (by simp) (fun _ => ?_) (fun i hi hp s hs => ?_) (fun i hi hp => ?_)
    · refine Ev.step (fun k => by rw [spec_l01Ok.l0]) ?_
      simp only [rd0]
      exact Ev.iteT (by simp) (Ev.iteF (by omega) (Ev.now _))
    all_goals
      have ho : ok85 (l.getD i z85) := getD_mem hx _ _ hi
      have hv := spec_valid ho
      obtain ⟨r, f1, f2⟩ := find_spec w h l (l.getD i z85).f0.f0 (l.getD i z85).f0.f1 hl
      have hin : spec_l01In.f (l.getD i z85).f0.f0 (l.getD i z85).f0.f1 (wrap64 w) (wrap64 h) = some (decide ((0 ≤ (l.getD i z85).f0.f0 ∧ (l.getD i z85).f0.f0 < w) ∧ 0 ≤ (l.getD i z85).f0.f1 ∧ (l.getD i z85).f0.f1 < h)) := by
        rw [w64 (n := w) (by omega), w64 (n := h) (by omega)]
        exact spec_in _ _ _ _ ho.1.1 ho.1.2 hw hh
      refine Ev.step (fun k => by rw [spec_l01Ok.l0]) ?_
      simp only [rd0, rdp]
      refine Ev.iteT (by simp) (Ev.iteT (by omega) (Ev.iteT (by omega) (Ev.bindc hv ?_)))
    · obtain ⟨g1, g2, g3⟩ := hp
      have e : r = (i : Int) := f2.same (.inr ⟨i, hi, rfl, ⟨rfl, rfl⟩, g3⟩)
      refine Ev.iteT (decide_eq_true g1) (Ev.bindc hin (Ev.iteT (decide_eq_true g2) (Ev.bind f1 (Ev.iteT e ?_))))
      rw [w64 (by omega)]
      exact hs
    · by_cases g1 : VP (l.getD i z85)
      · by_cases g2 : (0 ≤ (l.getD i z85).f0.f0 ∧ (l.getD i z85).f0.f0 < w) ∧ 0 ≤ (l.getD i z85).f0.f1 ∧ (l.getD i z85).f0.f1 < h
        · refine Ev.iteT (decide_eq_true g1) (Ev.bindc hin (Ev.iteT (decide_eq_true g2) (Ev.bind f1 (Ev.iteF (fun e => hp ⟨g1, g2, ?_⟩) (Ev.now _)))))
          rcases f2 with ⟨e', _⟩ | ⟨j, _, e', _, f3⟩
          · omega
          · have : j = i := by omega
            exact this ▸ f3
        · exact Ev.iteT (decide_eq_true g1) (Ev.bindc hin (Ev.iteF (by simpa using g2) (Ev.now _)))
      · exact Ev.iteF (by simpa using g1) (Ev.now _)
  obtain ⟨s, k1, k2⟩ := key
  unfold spec_l01Ok.f
  simp only [rd0, in_same, in_some]
  rw [w64 (n := w) (by omega), w64 (n := h) (by omega)]
  by_cases h1 : 1 ≤ w ∧ w ≤ 24
  · by_cases h2 : 1 ≤ h ∧ h ≤ 24
    · by_cases h3 : (l.length : Int) > 200
      · refine ⟨false, Ev.iteT (by simp) (Ev.bindc rfl (Ev.iteT (by simpa using h1) (Ev.bindc rfl (Ev.iteT (by simpa using h2) ?_)))), ?_⟩
        · rw [decide_eq_true h3]; exact hj
        · simp only [Bool.false_eq_true, false_iff]; intro h; have := h.len; omega
      · refine ⟨s, Ev.iteT (by simp) (Ev.bindc rfl (Ev.iteT (by simpa using h1) (Ev.bindc rfl (Ev.iteT (by simpa using h2) (Ev.step (fun k => by rw [spec_l01Ok.j0]) (Ev.iteF (by simpa using h3) k1)))))), ?_⟩
        rw [k2]; exact ⟨fun h => ⟨h1, h2, by omega, h.1⟩, fun h => ⟨h.piece, trivial⟩⟩
    · refine ⟨false, Ev.iteT (by simp) (Ev.bindc rfl (Ev.iteT (by simpa using h1) (Ev.bindc rfl (Ev.iteF (by simpa using h2) hj)))), ?_⟩
      simp only [Bool.false_eq_true, false_iff]; intro h; have := h.high; omega
  · refine ⟨false, Ev.iteT (by simp) (Ev.bindc rfl (Ev.iteF (by simpa using h1) hj)), ?_⟩
    simp only [Bool.false_eq_true, false_iff]; intro h; have := h.wide; omega
/-- The cells of the first pieces, as the keys of a map. -/
def cells (l : List (S85)) (i : Nat) : List ((Int × Int) × Unit) := (l.take i).map fun p => ((p.f0.f0, p.f0.f1), ())
theorem cells_next (l : List (S85)) (i : Nat) (h : i < l.length) : cells l i ++ [(((l.getD i z85).f0.f0, (l.getD i z85).f0.f1), ())] = cells l (i + 1) := by
  unfold cells
  rw [List.take_succ_eq_append_getElem h, List.map_append, getD_at _ _ _ h]
  rfl
theorem cells_find (l : List (S85)) (i : Nat) (h : i ≤ l.length) (x y : Int) : (Go.Proofs.YtnbjijkpenlpbaaDoorX.mfind (cells l i) x y).isSome = true ↔ ∃ j, j < i ∧ At l x y j := by
  unfold Go.Proofs.YtnbjijkpenlpbaaDoorX.mfind cells
  rw [Option.isSome_map, List.find?_isSome]
  constructor
  · rintro ⟨p, hp, hq⟩
    obtain ⟨q, hq1, rfl⟩ := List.mem_map.1 hp
    obtain ⟨j, hj, e⟩ := List.mem_take_iff_getElem.1 hq1
    refine ⟨j, by omega, ?_⟩
    unfold At
    rw [getD_at _ _ _ (by omega), e]
    simp only [Bool.and_eq_true, beq_iff_eq] at hq
    exact ⟨hq.1.symm, hq.2.symm⟩
  · rintro ⟨j, hj, e1, e2⟩
    rw [getD_at _ _ _ (by omega)] at e1 e2
    refine ⟨((l[j].f0.f0, l[j].f0.f1), ()), List.mem_map.2 ⟨l[j], List.mem_take_iff_getElem.2 ⟨j, by omega, rfl⟩, rfl⟩, ?_⟩
    simp [e1, e2]
theorem impl_ok (w h : Int) (l : List (S85)) (hw : -128 ≤ w ∧ w ≤ 127) (hh : -128 ≤ h ∧ h ≤ 127) (hx : ∀ y ∈ l, ok85 y) (hl : l.length ≤ 1048576) :
    ∃ r, Ev (fun k => impl_ValidBoard.f k w h l) r ∧ (r = true ↔ BoardOk w h l) := by
  have hj : Ev (fun k => impl_ValidBoard.j0 k true w h l) false := Ev.step (f := fun _ => some false) (fun k => by simp [impl_ValidBoard.j0]) (Ev.now _)
  have key : ∃ s, Ev (fun k => impl_ValidBoard.l0 k l l.length 0 w h l []) s ∧ (s = true ↔ (∀ i : Nat, i < l.length → Good w h l i) ∧ True) := by
    refine ev_scanB (g := fun k i => impl_ValidBoard.l0 k l l.length i w h l (cells l i.toNat)) (r := true) (fun i => Good w h l i) (by simp) (fun _ => ?_) (fun i hi hp s hs => ?_) (fun i hi hp => ?_)
    · refine Ev.step (fun k => by rw [impl_ValidBoard.l0]) ?_
      exact Ev.iteF (by omega) (Ev.now _)
    all_goals
      have ho : ok85 (l.getD i z85) := getD_mem hx _ _ hi
      have hv := impl_valid ho
      have hc := cells_find l i (Nat.le_of_lt hi) (l.getD i z85).f0.f0 (l.getD i z85).f0.f1
      refine Ev.step (fun k => by rw [impl_ValidBoard.l0]) ?_
      simp only [rdp, Int.toNat_natCast]
      refine Ev.iteT (by omega) (Ev.iteT (by omega) (Ev.iteT (by omega) (Ev.bindc hv ?_)))
    · obtain ⟨g1, g2, g3⟩ := hp
      refine Ev.iteT (decide_eq_true g1) (Ev.bindc (impl_has w h l _ _) (Ev.iteT (decide_eq_true g2) (Ev.iteF (fun c => ?_) ?_)))
      · obtain ⟨j, j1, j2⟩ := hc.1 c
        exact g3 j j1 j2
      · rw [cells_next l i hi, w64 (by omega)]
        simpa using hs
    · by_cases g1 : VP (l.getD i z85)
      · by_cases g2 : (0 ≤ (l.getD i z85).f0.f0 ∧ (l.getD i z85).f0.f0 < w) ∧ 0 ≤ (l.getD i z85).f0.f1 ∧ (l.getD i z85).f0.f1 < h
        · refine Ev.iteT (decide_eq_true g1) (Ev.bindc (impl_has w h l _ _) (Ev.iteT (decide_eq_true g2) (Ev.iteT (hc.2 ?_) (Ev.now _))))
          apply Classical.byContradiction
          intro hno
          exact hp ⟨g1, g2, fun j hj c => hno ⟨j, hj, c⟩⟩
        · exact Ev.iteT (decide_eq_true g1) (Ev.bindc (impl_has w h l _ _) (Ev.iteF (by simpa using g2) (Ev.now _)))
      · exact Ev.iteF (by simpa using g1) (Ev.now _)
  obtain ⟨s, k1, k2⟩ := key
  unfold impl_ValidBoard.f
  simp only [in_some]
  rw [w64 (n := w) (by omega), w64 (n := h) (by omega)]
  by_cases h1 : 1 ≤ w ∧ w ≤ 24
  · by_cases h2 : 1 ≤ h ∧ h ≤ 24
    · by_cases h3 : (l.length : Int) > 200
      · refine ⟨false, Ev.bindc rfl (Ev.iteT (by simpa using h1) (Ev.bindc rfl (Ev.iteT (by simpa using h2) ?_))), ?_⟩
        · rw [decide_eq_true h3]; exact hj
        · simp only [Bool.false_eq_true, false_iff]; intro h; have := h.len; omega
      · refine ⟨s, Ev.bindc rfl (Ev.iteT (by simpa using h1) (Ev.bindc rfl (Ev.iteT (by simpa using h2) (Ev.step (fun k => by rw [impl_ValidBoard.j0]) (Ev.iteF (by simpa using h3) k1))))), ?_⟩
        rw [k2]; exact ⟨fun h => ⟨h1, h2, by omega, h.1⟩, fun h => ⟨h.piece, trivial⟩⟩
    · refine ⟨false, Ev.bindc rfl (Ev.iteT (by simpa using h1) (Ev.bindc rfl (Ev.iteF (by simpa using h2) hj))), ?_⟩
      simp only [Bool.false_eq_true, false_iff]; intro h; have := h.high; omega
  · refine ⟨false, Ev.bindc rfl (Ev.iteF (by simpa using h1) hj), ?_⟩
    simp only [Bool.false_eq_true, false_iff]; intro h; have := h.wide; omega
theorem both_ok (w h : Int) (l : List (S85)) (hw : -128 ≤ w ∧ w ≤ 127) (hh : -128 ≤ h ∧ h ≤ 127) (hx : ∀ y ∈ l, ok85 y) (hl : l.length ≤ 1048576) :
    ∃ r, Ev (fun k => spec_l01Ok.f k [(⟨w, h, l⟩ : S37)]) r ∧ Ev (fun k => impl_ValidBoard.f k w h l) r ∧ (r = true → BoardOk w h l) := by
  obtain ⟨r, h1, h2⟩ := spec_ok w h l hw hh hx hl
  obtain ⟨q, h3, h4⟩ := impl_ok w h l hw hh hx hl
  obtain rfl := bool_same h2 h4
  exact ⟨r, h1, h3, h2.1⟩

/-- The digits of a number, with rounds. -/
def ddF : Nat → Nat → List UInt8
  | 0, _ => []
  | k + 1, u => if u < 10 then [UInt8.ofNat (48 + u)] else ddF k (u / 10) ++ [UInt8.ofNat (48 + u % 10)]
theorem dd_eq : ∀ (k u : Nat), u < 10 ^ (k + 1) → Go.Lib.decDigits u = ddF (k + 1) u
  | 0, u, h => by
    have h1 : u < 10 := by simpa using h
    unfold Go.Lib.decDigits
    rw [dif_pos h1]
    simp [ddF, h1]
  | k + 1, u, h => by
    unfold Go.Lib.decDigits
    by_cases h1 : u < 10
    · rw [dif_pos h1]
      simp [ddF, h1]
    · rw [dif_neg h1, dd_eq k (u / 10) (by rw [Nat.pow_succ] at h; omega)]
      simp [ddF, h1]
theorem ddF_len : ∀ (k u : Nat), (ddF k u).length ≤ k
  | 0, _ => by simp [ddF]
  | k + 1, u => by
    have := ddF_len k (u / 10)
    by_cases h1 : u < 10
    · simp [ddF, h1]
    · simp [ddF, h1]; omega
def dec (n : Int) : ByteArray := ⟨(ddF 4 n.toNat).toArray⟩
theorem dec_size (n : Int) : (dec n).size ≤ 4 := by
  have := ddF_len 4 n.toNat
  show (ddF 4 n.toNat).toArray.size ≤ 4
  simpa using this
theorem dec_all : ∀ i : Fin 1001, spec_Decimal.f 5 (i.val : Int) = some ⟨(ddF 4 i.val).toArray⟩ := by decide +kernel
theorem spec_dec {n : Int} (h0 : 0 ≤ n) (h1 : n ≤ 1000) : Ev (fun k => spec_Decimal.f k n) (dec n) := by
  have h := dec_all ⟨n.toNat, by omega⟩
  rw [show ((n.toNat : Nat) : Int) = n by omega] at h
  exact Ev.of (fun k => spec_Decimal.mono n k) h
theorem format_small {n : Int} (h0 : 0 ≤ n) (h1 : n < 100) : strconv_FormatInt_44.f n 10 = some (dec n) := by
  unfold strconv_FormatInt_44.f
  rw [if_pos ⟨h0, h1, rfl⟩, dd_eq 3 n.toNat (by omega)]
  rfl
theorem impl_dec {n : Int} (h0 : 0 ≤ n) (h1 : n < 100) : impl_decimal_int8.f n = some (dec n) := by
  unfold impl_decimal_int8.f
  rw [w64 (by omega), format_small h0 h1]
  rfl

def sp1 : ByteArray := ⟨#[32]⟩
def nl1 : ByteArray := ⟨#[10]⟩
def words : List ByteArray := [(⟨#[108, 105, 110, 101]⟩ : ByteArray), (⟨#[99, 111, 114, 110, 101, 114]⟩ : ByteArray), (⟨#[102, 111, 114, 107]⟩ : ByteArray), (⟨#[111, 110, 101, 119, 97, 121]⟩ : ByteArray), (⟨#[103, 97, 116, 101]⟩ : ByteArray), (⟨#[99, 114, 111, 115, 115]⟩ : ByteArray)]
def wordAt (a : Int) : ByteArray := rdOf ByteArray.empty words a
theorem word_size {a : Int} (h0 : 0 ≤ a) (h1 : a ≤ 5) : (wordAt a).size ≤ 6 := by
  have : a = 0 ∨ a = 1 ∨ a = 2 ∨ a = 3 ∨ a = 4 ∨ a = 5 := by omega
  rcases this with h | h | h | h | h | h <;> subst h <;> decide
/-- A piece's line. -/
def line (p : S85) : ByteArray := ((((((((dec p.f0.f0 ++ sp1) ++ dec p.f0.f1) ++ sp1) ++ wordAt p.f1) ++ sp1) ++ dec p.f2) ++ sp1) ++ dec p.f3) ++ nl1
def headOf (w h : Int) : ByteArray := ((dec w ++ sp1) ++ dec h) ++ nl1
def txt (w h : Int) (l : List (S85)) : Nat → ByteArray
  | 0 => headOf w h
  | i + 1 => txt w h l i ++ line (l.getD i z85)
theorem sp_size : sp1.size = 1 := rfl
theorem nl_size : nl1.size = 1 := rfl
theorem head_size (w h : Int) : (headOf w h).size ≤ 10 := by
  have a := dec_size w
  have b := dec_size h
  simp only [headOf, ByteArray.size_append, sp_size, nl_size]
  omega
theorem line_size {p : S85} (hp : VP p) : (line p).size ≤ 27 := by
  have a := dec_size p.f0.f0
  have b := dec_size p.f0.f1
  have c := dec_size p.f2
  have d := dec_size p.f3
  have e := word_size hp.1.1 hp.1.2
  simp only [line, ByteArray.size_append, sp_size, nl_size]
  omega
theorem txt_size {w h : Int} {l : List (S85)} (hv : ∀ i, i < l.length → VP (l.getD i z85)) : ∀ i, i ≤ l.length → (txt w h l i).size ≤ 10 + 27 * i
  | 0, _ => head_size w h
  | i + 1, hi => by
    have a := txt_size (w := w) (h := h) hv i (by omega)
    have b := line_size (hv i (by omega))
    simp only [txt, ByteArray.size_append]
    omega
theorem spec_text {w h : Int} {l : List (S85)} (hb : BoardOk w h l) : Ev (fun k => spec_l01Text.f k [(⟨w, h, l⟩ : S37)]) (txt w h l l.length) := by
  have hv : ∀ i, i < l.length → VP (l.getD i z85) := fun i hi => (hb.piece i hi).1
  have hlen := hb.len
  have d1 := dec_size w
  have d2 := dec_size h
  have hw := hb.wide
  have hh := hb.high
  unfold spec_l01Text.f
  simp only [rd0]
  refine Ev.iteT (by simp) (Ev.bind (spec_dec (n := wrap64 w) (by rw [w64 (by omega)]; omega) (by rw [w64 (by omega)]; omega)) ?_)
  rw [w64 (n := w) (by omega)]
  refine Ev.iteT (by omega) (Ev.bind (spec_dec (n := wrap64 h) (by rw [w64 (by omega)]; omega) (by rw [w64 (by omega)]; omega)) ?_)
  rw [w64 (n := h) (by omega)]
  refine Ev.iteT (by omega) (Ev.iteT (by omega) ?_)
  refine ev_loop2 (g := fun k (s : ByteArray × Int) => spec_l01Text.l0 k [(⟨w, h, l⟩ : S37)] s.1 s.2) (fun i => (txt w h l i, (i : Int))) l.length ?_ fun i hi ih => ?_
  · refine Ev.step (fun k => by rw [spec_l01Text.l0]) ?_
    simp only [rd0]
    exact Ev.iteT (by simp) (Ev.iteF (by omega) (Ev.now _))
  · have hp := hv i hi
    have hs := txt_size (w := w) (h := h) hv i (by omega)
    have hls := line_size hp
    obtain ⟨v1, v2, v3, v4, v5⟩ := hp
    have a := dec_size (l.getD i z85).f0.f0
    have b := dec_size (l.getD i z85).f0.f1
    have c := dec_size (l.getD i z85).f2
    have d := dec_size (l.getD i z85).f3
    have e := word_size v1.1 v1.2
    refine Ev.step (fun k => by rw [spec_l01Text.l0]) ?_
    simp only [rd0, rdp]
    refine Ev.iteT (by simp) (Ev.iteT (by omega) (Ev.iteT (by omega) ?_))
    rw [w64 (n := (l.getD i z85).f0.f0) (by omega), w64 (n := (l.getD i z85).f0.f1) (by omega), w64 (n := (l.getD i z85).f2) (by omega), w64 (n := (l.getD i z85).f3) (by omega), w64 (n := (i : Int) + 1) (by omega)]
    refine Ev.bind (spec_dec (by omega) (by omega)) (Ev.iteT (by omega) (Ev.bind (spec_dec (by omega) (by omega)) (Ev.iteT (by omega) (Ev.iteT (by omega) (Ev.bind (Ev.now words) ?_)))))
    refine Ev.iteT v1.1 (Ev.iteT (by show _ < (6 : Int); omega) ?_)
    change Ev (fun k => if (dec (l.getD i z85).f0.f0).size + 1 + (dec (l.getD i z85).f0.f1).size + 1 + (wordAt (l.getD i z85).f1).size ≤ 9223372036854775807 then _ else _) _
    refine Ev.iteT (by omega) (Ev.iteT (by show _ + (wordAt _).size + 1 ≤ _; omega) (Ev.bind (spec_dec (by omega) (by omega)) ?_))
    refine Ev.iteT (by show _ + (wordAt _).size + 1 + _ ≤ _; omega) (Ev.iteT (by show _ + (wordAt _).size + 1 + _ + 1 ≤ _; omega) (Ev.bind (spec_dec (by omega) (by omega)) ?_))
    refine Ev.iteT (by show _ + (wordAt _).size + 1 + _ + 1 + _ ≤ _; omega) (Ev.iteT (by show _ + (wordAt _).size + 1 + _ + 1 + _ + 1 ≤ _; omega) (Ev.iteT (by show _ + (wordAt _).size + 1 + _ + 1 + _ + 1 ≤ _; omega) ?_))
    exact ih
theorem impl_cell {a b : Int} (ha : 0 ≤ a ∧ a ≤ 23) (hb : 0 ≤ b ∧ b ≤ 23) : impl_Cell_text.f a b = some ((dec a ++ sp1) ++ dec b) := by
  have d1 := dec_size a
  have d2 := dec_size b
  unfold impl_Cell_text.f
  rw [impl_dec (by omega) (by omega), impl_dec (n := b) (by omega) (by omega)]
  simp only [Option.bind_some]
  rw [if_pos (by omega), if_pos (by omega)]
  rfl
theorem impl_text {w h : Int} {l : List (S85)} (hb : BoardOk w h l) : Ev (fun k => impl_Board_text.f k [(⟨w, h, l⟩ : S37)]) (txt w h l l.length) := by
  have hv : ∀ i, i < l.length → VP (l.getD i z85) := fun i hi => (hb.piece i hi).1
  have hlen := hb.len
  have d1 := dec_size w
  have d2 := dec_size h
  have hw := hb.wide
  have hh := hb.high
  unfold impl_Board_text.f
  simp only [rd0]
  refine Ev.iteT (by simp) (Ev.bind (ev_const (impl_dec (by omega) (by omega))) (Ev.iteT (by omega) (Ev.bind (ev_const (impl_dec (by omega) (by omega))) (Ev.iteT (by omega) (Ev.iteT (by omega) (Ev.iteT (by omega) ?_))))))
  rw [show (⟨#[]⟩ : ByteArray) ++ (((dec w ++ (⟨#[32]⟩ : ByteArray)) ++ dec h) ++ (⟨#[10]⟩ : ByteArray)) = txt w h l 0 from ByteArray.empty_append]
  refine ev_loop2 (g := fun k (s : ByteArray × Int) => impl_Board_text.l0 k s.1 l (l.length : Int) s.2) (fun i => (txt w h l i, (i : Int))) l.length ?_ fun i hi ih => ?_
  · refine Ev.step (fun k => by rw [impl_Board_text.l0]) ?_
    exact Ev.iteF (by omega) (Ev.now _)
  · have hp := hv i hi
    have hs := txt_size (w := w) (h := h) hv i (by omega)
    have hls := line_size hp
    obtain ⟨v1, v2, v3, v4, v5⟩ := hp
    have a := dec_size (l.getD i z85).f0.f0
    have b := dec_size (l.getD i z85).f0.f1
    have c := dec_size (l.getD i z85).f2
    have d := dec_size (l.getD i z85).f3
    have e := word_size v1.1 v1.2
    have tz : ((dec (l.getD i z85).f0.f0 ++ sp1) ++ dec (l.getD i z85).f0.f1).size ≤ 9 := by
      simp only [ByteArray.size_append, sp_size]
      omega
    refine Ev.step (fun k => by rw [impl_Board_text.l0]) ?_
    simp only [rdp]
    refine Ev.iteT (by omega) (Ev.iteT (by omega) (Ev.iteT (by omega) ?_))
    rw [w64 (n := (i : Int) + 1) (by omega)]
    refine Ev.bind (ev_const (impl_cell v4 v5)) (Ev.iteT (by omega) (Ev.bind (Ev.now words) ?_))
    refine Ev.iteT v1.1 (Ev.iteT (by show _ < (6 : Int); omega) ?_)
    refine Ev.iteT (by show _ + 1 + (wordAt _).size ≤ _; omega) (Ev.iteT (by show _ + 1 + (wordAt _).size + 1 ≤ _; omega) (Ev.bind (ev_const (impl_dec (by omega) (by omega))) ?_))
    refine Ev.iteT (by show _ + (wordAt _).size + 1 + _ ≤ _; omega) (Ev.iteT (by show _ + (wordAt _).size + 1 + _ + 1 ≤ _; omega) (Ev.bind (ev_const (impl_dec (by omega) (by omega))) ?_))
    refine Ev.iteT (by show _ + (wordAt _).size + 1 + _ + 1 + _ ≤ _; omega) (Ev.iteT (by show _ + (wordAt _).size + 1 + _ + 1 + _ + 1 ≤ _; omega) (Ev.iteT (by show _ + (wordAt _).size + 1 + _ + 1 + _ + 1 ≤ _; omega) ?_))
    exact ih
theorem core (x0_0 : Int) (x0_1 : Int) (x0_2 : List (S85)) (ox0_0 : (-128 ≤ x0_0 ∧ x0_0 ≤ 127)) (ox0_1 : (-128 ≤ x0_1 ∧ x0_1 ≤ 127)) (ox0_2 : ∀ y ∈ x0_2, ok85 y) (nx0_2 : x0_2.length ≤ 1048576) : ∃ r : ByteArray, Ev (fun k => spec_BoardText.f k x0_0 x0_1 x0_2) r ∧ Ev (fun k => impl_BoardText.f k x0_0 x0_1 x0_2) r ∧ True := by
  obtain ⟨r, h1, h2, hr⟩ := both_ok x0_0 x0_1 x0_2 ox0_0 ox0_1 ox0_2 nx0_2
  unfold spec_BoardText.f impl_BoardText.f
  cases r
  · exact ⟨⟨#[]⟩, Ev.bind h1 (Ev.iteF (by simp) (Ev.now _)), Ev.bind h2 (Ev.iteF (by simp) (Ev.now _)), trivial⟩
  · exact ⟨_, Ev.bind h1 (Ev.iteT rfl (Ev.bind (spec_text (hr rfl)) (Ev.now _))), Ev.bind h2 (Ev.iteT rfl (Ev.bind (impl_text (hr rfl)) (Ev.now _))), trivial⟩

theorem FnExactBoardText : QFnExactBoardText.Pure := by
  rintro ⟨x0_0, x0_1, x0_2⟩ ⟨wx0_0, wx0_1, wx0_2⟩
  have ox0_0 : (-128 ≤ x0_0 ∧ x0_0 ≤ 127) := i8b wx0_0
  have ox0_1 : (-128 ≤ x0_1 ∧ x0_1 ≤ 127) := i8b wx0_1
  obtain ⟨wx0_2, mx0_2⟩ := wx0_2
  have mx0_2 : x0_2.length ≤ 9223372036854775807 := mx0_2
  refine Ev.rounds (r := true) ?_
  unfold laws_FnExactBoardText.f
  obtain ⟨r_0, e_0, c_0⟩ := szBoard x0_0 x0_1 x0_2 (1048576) (by omega) mx0_2
  refine Ev.bindc e_0 ?_
  rcases c_0 with c_0 | ⟨rfl, c_0⟩
  · exact Ev.iteT c_0 (Ev.now _)
  refine Ev.iteF (by omega) ?_
  refine Ev.bind (toBoard _ _ _ (by first | omega | ((try dsimp only); (try simp only [List.length_map, List.length_range, List.length_nil]); omega) | (simp; omega))) ?_
  try dsimp only
  obtain ⟨r0, hs, hi, hb⟩ := core x0_0 x0_1 (x0_2.map cv91_85) ox0_0 ox0_1 (fun y hy => by obtain ⟨z, hz, rfl⟩ := List.mem_map.1 hy; exact okof91_85 (wx0_2 z hz)) (by first | omega | ((try dsimp only); (try simp only [List.length_map, List.length_range, List.length_nil]); omega) | (simp; omega))
  refine Ev.bind hs ?_
  try dsimp only
  refine Ev.bind (toBoard _ _ _ (by first | omega | ((try dsimp only); (try simp only [List.length_map, List.length_range, List.length_nil]); omega) | (simp; omega))) ?_
  try dsimp only
  refine Ev.bind hi ?_
  try dsimp only
  refine Ev.iteT (by first | rfl | (first | omega | ((try dsimp only); (try simp only [List.length_map, List.length_range, List.length_nil]); omega) | (simp; omega))) ?_
  try dsimp only
  refine Ev.bind (toBoard _ _ _ (by first | omega | ((try dsimp only); (try simp only [List.length_map, List.length_range, List.length_nil]); omega) | (simp; omega))) ?_
  try dsimp only
  refine Ev.bind (eqBoard _ _ _ (by first | omega | ((try dsimp only); (try simp only [List.length_map, List.length_range, List.length_nil]); omega) | (simp; omega))) ?_
  try dsimp only
  refine Ev.iteT (by first | rfl | (first | omega | ((try dsimp only); (try simp only [List.length_map, List.length_range, List.length_nil]); omega) | (simp; omega))) ?_
  try dsimp only
  exact Ev.now _
end Go.Proofs.YtnbjijkpenlpbaaDoor.Pure
