/- The pure side of the law FnExactPushesText: for all arguments its Lean function answers true. No condition beside the arguments' kinds. -/
import Derived.Test.YtnbjijkpenlpbaaDoorQFnExactPushesText
import Derived.Test.YtnbjijkpenlpbaaDoorTFnExactPushesTexta
namespace Go.Proofs.YtnbjijkpenlpbaaDoor.Pure
open Go.RowKit Go.Proofs.YtnbjijkpenlpbaaDoor.PFnExactPushesText Go.Proofs.YtnbjijkpenlpbaaDoorW.PrintWords Go.Proofs.YtnbjijkpenlpbaaDoorW.PrintLast Go.Proofs.YtnbjijkpenlpbaaDoorX Go.Proofs.YtnbjijkpenlpbaaDoor.QFnExactPushesText Go.Proofs.YtnbjijkpenlpbaaDoorB
set_option linter.unusedVariables false
set_option linter.unusedSimpArgs false

theorem szPushS (l0 : List (S49)) (a_ : Int) (ha : 0 ≤ a_ ∧ a_ ≤ 1048576) (hl0 : l0.length ≤ 9223372036854775807) : ∃ r, laws_szPushS.f l0 a_ = some r ∧ (r < 0 ∨ (r = a_ - l0.length ∧ 0 ≤ r)) := by
  unfold laws_szPushS.f
  rw [w64 (n := a_ - l0.length) (by omega)]
  by_cases h : a_ - (l0.length : Int) < 0
  · exact ⟨-1, by rw [if_pos h], .inl (by omega)⟩
  · exact ⟨_, by rw [if_neg h], .inr ⟨rfl, by omega⟩⟩
theorem toCell (a0_0 : Int) (a0_1 : Int)  : Ev (fun k => laws_toCell.f k a0_0 a0_1) (a0_0, a0_1) := by
  refine ⟨3, fun k hk => ?_⟩
  obtain ⟨m, rfl⟩ : ∃ m, k = m + 3 := ⟨k - 3, by omega⟩
  simp [laws_toCell.f, laws_toCell.l0, wrap64]
theorem toPush (a0_0 : Int) (a0_1 : Int) (a0_2 : Int) (a0_3 : Int)  : Ev (fun k => laws_toPush.f k a0_0 a0_1 a0_2 a0_3) (a0_0, a0_1, a0_2, a0_3) := by
  unfold laws_toPush.f
  exact (Ev.bind (toCell _ _ ) (Ev.now _))
def cv42_43 (x : S42) : S43 := ⟨x.f0, x.f1⟩
def cv49_46 (x : S49) : S46 := ⟨cv42_43 x.f0, x.f1, x.f2⟩
theorem toPushS (l0 : List (S49)) (hl0 : l0.length ≤ 1099511627776) : Ev (fun k => laws_toPushS.f k l0) (l0.map cv49_46) := by
  suffices main : Ev (fun k => laws_toPushS.f k l0) (l0.map cv49_46) by exact main
  unfold laws_toPushS.f
  refine Ev.iteT (by omega) (Ev.iteT (by omega) ?_)
  rw [Int.toNat_natCast]
  refine ev_fill2 (g := fun k x i => laws_toPushS.l0 k l0 x i) cv49_46 l0 _ (Ev.step (f := fun _ => some _) (fun k => by simp [laws_toPushS.l0]) (Ev.now _)) fun i h x hx ih => ?_
  have eg : l0.getD i z49 = l0[i] := getD_at _ _ _ h
  refine Ev.step (fun k => by rw [laws_toPushS.l0]) (Ev.iteT (by omega) (Ev.iteT (by omega) ?_))
  simp only [rd_T49, Int.toNat_natCast, eg]
  refine Ev.bind (toPush _ _ _ _ ) ?_
  refine Ev.iteT (by omega) ?_
  rw [w64 (by omega)]
  exact ih
theorem eqCell (a0_0 : Int) (a0_1 : Int)  : Ev (fun k => laws_eqCell.f k a0_0 a0_1 a0_0 a0_1) true := by
  refine ⟨3, fun k hk => ?_⟩
  obtain ⟨m, rfl⟩ : ∃ m, k = m + 3 := ⟨k - 3, by omega⟩
  simp [laws_eqCell.f, laws_eqCell.l0, wrap64]
theorem eqPush (a0_0 : Int) (a0_1 : Int) (a0_2 : Int) (a0_3 : Int)  : Ev (fun k => laws_eqPush.f k a0_0 a0_1 a0_2 a0_3 a0_0 a0_1 a0_2 a0_3) true := by
  unfold laws_eqPush.f
  exact (Ev.bind (eqCell _ _ ) (Ev.iteT rfl (Ev.iteT rfl (Ev.iteT rfl (Ev.now _)))))
theorem eqPushS (l0 : List (S46)) (hl0 : l0.length ≤ 1099511627776) : Ev (fun k => laws_eqPushS.f k l0 l0) true := by
  unfold laws_eqPushS.f
  refine Ev.iteT rfl ?_
  refine ev_loop2 (g := fun k i => laws_eqPushS.l0 k l0 l0 i) (fun i => (i : Int)) l0.length (Ev.step (f := fun _ => some _) (fun k => by simp [laws_eqPushS.l0]) (Ev.now _)) fun i h ih => ?_
  refine Ev.step (fun k => by rw [laws_eqPushS.l0]) (Ev.iteT (by omega) (Ev.iteT (by omega) (Ev.iteT (by omega) ?_)))
  refine Ev.bind (eqPush _ _ _ _ ) (Ev.iteT rfl ?_)
  rw [w64 (by omega)]
  exact ih
def ok43 (x : S43) : Prop := (-128 ≤ x.f0 ∧ x.f0 ≤ 127) ∧ (-128 ≤ x.f1 ∧ x.f1 ≤ 127)
def ok46 (x : S46) : Prop := ok43 x.f0 ∧ (-128 ≤ x.f1 ∧ x.f1 ≤ 127) ∧ (-32768 ≤ x.f2 ∧ x.f2 ≤ 32767)
theorem okof42_43 {x : S42} (h : wf42 x) : ok43 (cv42_43 x) := by
  obtain ⟨h0, h1⟩ := h
  exact ⟨(i8b h0), (i8b h1)⟩
theorem okof49_46 {x : S49} (h : wf49 x) : ok46 (cv49_46 x) := by
  obtain ⟨h0, h1, h2⟩ := h
  exact ⟨(okof42_43 h0), (i8b h1), (i16b h2)⟩
theorem in_same : spec_l00In.f = impl_in.f := rfl
theorem in_some (a b c : Int) : impl_in.f a b c = some (decide (b ≤ a ∧ a ≤ c)) := by
  unfold impl_in.f
  by_cases h : b ≤ a <;> simp [h]

/-- The digits of a number, with rounds. -/
def ddF : Nat → Nat → List UInt8
  | 0, _ => []
  | k + 1, u => if u < 10 then [UInt8.ofNat (48 + u)] else ddF k (u / 10) ++ [UInt8.ofNat (48 + u % 10)]
theorem dd_eq : ∀ (k u : Nat), u < 10 ^ (k + 1) → Go.Lib.decDigits u = ddF (k + 1) u
  | 0, u, h => by
    have h1 : u < 10 := by simpa using h
    unfold Go.Lib.decDigits
    rw [dif_pos h1]
    simp [ddF, h1]
  | k + 1, u, h => by
    unfold Go.Lib.decDigits
    by_cases h1 : u < 10
    · rw [dif_pos h1]
      simp [ddF, h1]
    · rw [dif_neg h1, dd_eq k (u / 10) (by rw [Nat.pow_succ] at h; omega)]
      simp [ddF, h1]
theorem ddF_len : ∀ (k u : Nat), (ddF k u).length ≤ k
  | 0, _ => by simp [ddF]
  | k + 1, u => by
    have := ddF_len k (u / 10)
    by_cases h1 : u < 10
    · simp [ddF, h1]
    · simp [ddF, h1]; omega
def dec (n : Int) : ByteArray := ⟨(ddF 4 n.toNat).toArray⟩
theorem dec_size (n : Int) : (dec n).size ≤ 4 := by
  have := ddF_len 4 n.toNat
  show (ddF 4 n.toNat).toArray.size ≤ 4
  simpa using this
theorem dec_all : ∀ i : Fin 1001, spec_Decimal.f 5 (i.val : Int) = some ⟨(ddF 4 i.val).toArray⟩ := by decide +kernel
theorem spec_dec {n : Int} (h0 : 0 ≤ n) (h1 : n ≤ 1000) : Ev (fun k => spec_Decimal.f k n) (dec n) := by
  have h := dec_all ⟨n.toNat, by omega⟩
  rw [show ((n.toNat : Nat) : Int) = n by omega] at h
  exact Ev.of (fun k => spec_Decimal.mono n k) h
theorem format_small {n : Int} (h0 : 0 ≤ n) (h1 : n < 100) : strconv_FormatInt_44.f n 10 = some (dec n) := by
  unfold strconv_FormatInt_44.f
  rw [if_pos ⟨h0, h1, rfl⟩, dd_eq 3 n.toNat (by omega)]
  rfl
theorem impl_dec {n : Int} (h0 : 0 ≤ n) (h1 : n < 100) : impl_decimal_int8.f n = some (dec n) := by
  unfold impl_decimal_int8.f
  rw [w64 (by omega), format_small h0 h1]
  rfl

theorem spec_in (a b w h : Int) (ha : -128 ≤ a ∧ a ≤ 127) (hb : -128 ≤ b ∧ b ≤ 127) (hw : -128 ≤ w ∧ w ≤ 127) (hh : -128 ≤ h ∧ h ≤ 127) : spec_l01In.f a b w h = some (decide ((0 ≤ a ∧ a < w) ∧ 0 ≤ b ∧ b < h)) := by
  unfold spec_l01In.f
  simp only [in_same, in_some, Option.bind_some]
  rw [w64 (n := a) (by omega), w64 (n := b) (by omega), w64 (n := w - 1) (by omega), w64 (n := h - 1) (by omega)]
  have e1 : (0 ≤ a ∧ a ≤ w - 1) ↔ (0 ≤ a ∧ a < w) := by omega
  have e2 : (0 ≤ b ∧ b ≤ h - 1) ↔ (0 ≤ b ∧ b < h) := by omega
  simp only [e1, e2]
  by_cases h1 : 0 ≤ a ∧ a < w <;> simp [h1]
theorem idx_loop {g : Nat → Int → Option Int} (P : Nat → Prop) (n : Nat) (hend : Ev (fun k => g k (n : Int)) (-1)) (hyes : ∀ i : Nat, i < n → P i → Ev (fun k => g k (i : Int)) (i : Int)) (hno : ∀ i : Nat, i < n → ¬ P i → ∀ s, Ev (fun k => g k ((i + 1 : Nat) : Int)) s → Ev (fun k => g k (i : Int)) s) :
    ∃ r, Ev (fun k => g k 0) r ∧ (0 ≤ r ↔ ∃ i, i < n ∧ P i) := by
  have : DecidablePred fun i => ¬ P i := fun _ => Classical.propDecidable _
  rcases first_or_all (fun i => ¬ P i) n with h | ⟨j, h1, h2, h3⟩
  · refine ⟨-1, ev_loop2 (g := g) (fun i => (i : Int)) n hend (fun i hi ih => hno i hi (h i hi) _ ih), ⟨fun h' => by omega, ?_⟩⟩
    rintro ⟨i, hi, c⟩
    exact absurd c (h i hi)
  · exact ⟨(j : Int), ev_loop2 (g := g) (fun i => (i : Int)) j (hyes j h1 (Classical.not_not.1 h2)) (fun i hi ih => hno i (by omega) (h3 i hi) _ ih), ⟨fun _ => ⟨j, h1, Classical.not_not.1 h2⟩, fun _ => by omega⟩⟩
theorem rdq (l : List (S46)) (i : Nat) : rd_T46 l (i : Int) = l.getD i z46 := id rfl
theorem rdq0 (p : S46) : rd_T46 [p] 0 = p := id rfl
def PushOk (p : S46) : Prop := (0 ≤ p.f1 ∧ p.f1 ≤ 3) ∧ (0 ≤ p.f2 ∧ p.f2 ≤ 1000)
instance (p : S46) : Decidable (PushOk p) := by unfold PushOk; infer_instance
theorem impl_bad {p : S46} (hp : ok46 p) : impl_badPush.f p.f0.f0 p.f0.f1 p.f1 p.f2 = some (!decide (PushOk p)) := by
  obtain ⟨⟨a, b⟩, c, d⟩ := p
  obtain ⟨⟨h0, h1⟩, h2, h3⟩ := hp
  dsimp only at h0 h1 h2 h3 ⊢
  unfold impl_badPush.f impl_pushOk.f impl_isSide.f
  simp only [in_some, Option.bind_some]
  rw [w64 (n := c) (by omega), w64 (n := d) (by omega)]
  by_cases h4 : 0 ≤ c ∧ c ≤ 3 <;> simp [PushOk, h4]
theorem spec_plain {p : S46} (hp : ok46 p) : spec_l02Plain.f [p] = some (decide (PushOk p ∧ (0 ≤ p.f0.f0 ∧ p.f0.f0 < 24) ∧ 0 ≤ p.f0.f1 ∧ p.f0.f1 < 24)) := by
  have hin := spec_in p.f0.f0 p.f0.f1 24 24 hp.1.1 hp.1.2 (by omega) (by omega)
  unfold spec_l02Plain.f spec_l01Side.f
  simp only [rdq0, in_same, in_some, Option.bind_some, hin]
  have h2 := hp.2.1
  have h3 := hp.2.2
  rw [w64 (n := p.f1) (by omega), w64 (n := p.f2) (by omega)]
  by_cases h4 : 0 ≤ p.f1 ∧ p.f1 ≤ 3 <;> by_cases h5 : 0 ≤ p.f2 ∧ p.f2 ≤ 1000 <;> simp [PushOk, h4, h5]
theorem spec_pushes (l : List (S46)) (hx : ∀ y ∈ l, ok46 y) (hl : l.length ≤ 1048576) :
    ∃ r, Ev (fun k => spec_l02Pushes.f k l) r ∧ (r = true ↔ (∀ i : Nat, i < l.length → PushOk (l.getD i z46) ∧ (0 ≤ (l.getD i z46).f0.f0 ∧ (l.getD i z46).f0.f0 < 24) ∧ 0 ≤ (l.getD i z46).f0.f1 ∧ (l.getD i z46).f0.f1 < 24) ∧ l.length ≤ 20) := by
  unfold spec_l02Pushes.f
  refine ev_scanB (g := fun k i => spec_l02Pushes.l0 k l i) (r := decide ((l.length : Int) ≤ 20)) _ (by simp; omega) (fun _ => ?_) (fun i hi hp s hs => ?_) (fun i hi hp => ?_)
  · refine Ev.step (fun k => by rw [spec_l02Pushes.l0]) ?_
    exact Ev.iteF (by omega) (Ev.now _)
  all_goals
    have hv := spec_plain (getD_mem hx z46 i hi)
    refine Ev.step (fun k => by rw [spec_l02Pushes.l0]) ?_
    simp only [rdq]
    refine Ev.iteT (by omega) (Ev.iteT (by omega) (Ev.bindc hv ?_))
  · refine Ev.iteT (decide_eq_true hp) ?_
    rw [w64 (by omega)]
    exact hs
  · exact Ev.iteF (by rw [decide_eq_false hp]; decide) (Ev.now _)

def sp1 : ByteArray := ⟨#[32]⟩
def nl1 : ByteArray := ⟨#[10]⟩
def words : List ByteArray := [(⟨#[110, 111, 114, 116, 104]⟩ : ByteArray), (⟨#[101, 97, 115, 116]⟩ : ByteArray), (⟨#[115, 111, 117, 116, 104]⟩ : ByteArray), (⟨#[119, 101, 115, 116]⟩ : ByteArray)]
def wordAt (a : Int) : ByteArray := rdOf ByteArray.empty words a
theorem word_size {a : Int} (h0 : 0 ≤ a) (h1 : a ≤ 3) : (wordAt a).size ≤ 6 := by
  have : a = 0 ∨ a = 1 ∨ a = 2 ∨ a = 3 := by omega
  rcases this with h | h | h | h <;> subst h <;> decide
abbrev GoodP (p : S46) : Prop := PushOk p ∧ (0 ≤ p.f0.f0 ∧ p.f0.f0 < 24) ∧ 0 ≤ p.f0.f1 ∧ p.f0.f1 < 24
/-- A push's line. -/
def line (p : S46) : ByteArray := ((((((dec p.f0.f0 ++ sp1) ++ dec p.f0.f1) ++ sp1) ++ wordAt p.f1) ++ sp1) ++ dec p.f2) ++ nl1
def txt (l : List (S46)) : Nat → ByteArray
  | 0 => ⟨#[]⟩
  | i + 1 => txt l i ++ line (l.getD i z46)
theorem sp_size : sp1.size = 1 := rfl
theorem nl_size : nl1.size = 1 := rfl
theorem line_size {p : S46} (hp : GoodP p) : (line p).size ≤ 27 := by
  have a := dec_size p.f0.f0
  have b := dec_size p.f0.f1
  have c := dec_size p.f2
  have e := word_size hp.1.1.1 hp.1.1.2
  simp only [line, ByteArray.size_append, sp_size, nl_size]
  omega
theorem txt_size {l : List (S46)} (hv : ∀ i, i < l.length → GoodP (l.getD i z46)) : ∀ i, i ≤ l.length → (txt l i).size ≤ 27 * i
  | 0, _ => Nat.le_refl 0
  | i + 1, hi => by
    have a := txt_size hv i (by omega)
    have b := line_size (hv i (by omega))
    simp only [txt, ByteArray.size_append]
    omega
theorem spec_text {l : List (S46)} (hlen : l.length ≤ 20) (hv : ∀ i, i < l.length → GoodP (l.getD i z46)) : Ev (fun k => spec_l02Text.f k l) (txt l l.length) := by
  unfold spec_l02Text.f
  refine ev_loop2 (g := fun k (s : ByteArray × Int) => spec_l02Text.l0 k l s.1 s.2) (fun i => (txt l i, (i : Int))) l.length ?_ fun i hi ih => ?_
  · refine Ev.step (fun k => by rw [spec_l02Text.l0]) ?_
    exact Ev.iteF (by omega) (Ev.now _)
  · have hp := hv i hi
    have hs := txt_size hv i (by omega)
    obtain ⟨⟨v1, v2⟩, v4, v5⟩ := hp
    have a := dec_size (l.getD i z46).f0.f0
    have b := dec_size (l.getD i z46).f0.f1
    have c := dec_size (l.getD i z46).f2
    have e := word_size v1.1 v1.2
    refine Ev.step (fun k => by rw [spec_l02Text.l0]) ?_
    simp only [rdq]
    refine Ev.iteT (by omega) (Ev.iteT (by omega) ?_)
    rw [w64 (n := (l.getD i z46).f0.f0) (by omega), w64 (n := (l.getD i z46).f0.f1) (by omega), w64 (n := (l.getD i z46).f2) (by omega), w64 (n := (i : Int) + 1) (by omega)]
    refine Ev.bind (spec_dec (by omega) (by omega)) (Ev.iteT (by omega) (Ev.bind (spec_dec (by omega) (by omega)) (Ev.iteT (by omega) (Ev.iteT (by omega) (Ev.bind (Ev.now words) ?_)))))
    refine Ev.iteT v1.1 (Ev.iteT (by show _ < (4 : Int); omega) ?_)
    refine Ev.iteT (by show _ + (wordAt _).size ≤ _; omega) (Ev.iteT (by show _ + (wordAt _).size + 1 ≤ _; omega) (Ev.bind (spec_dec (by omega) (by omega)) ?_))
    refine Ev.iteT (by show _ + (wordAt _).size + 1 + _ ≤ _; omega) (Ev.iteT (by show _ + (wordAt _).size + 1 + _ + 1 ≤ _; omega) (Ev.iteT (by show _ + (wordAt _).size + 1 + _ + 1 ≤ _; omega) ?_))
    exact ih
theorem impl_cell {a b : Int} (ha : 0 ≤ a ∧ a < 24) (hb : 0 ≤ b ∧ b < 24) : impl_Cell_text.f a b = some ((dec a ++ sp1) ++ dec b) := by
  have d1 := dec_size a
  have d2 := dec_size b
  unfold impl_Cell_text.f
  rw [impl_dec (by omega) (by omega), impl_dec (n := b) (by omega) (by omega)]
  simp only [Option.bind_some]
  rw [if_pos (by omega), if_pos (by omega)]
  rfl
theorem impl_dec16 {n : Int} (h0 : 0 ≤ n) (h1 : n ≤ 1000) : impl_decimal_int16.f n = some (dec n) := by
  unfold impl_decimal_int16.f
  rw [if_pos ⟨h0, by omega⟩, dd_eq 3 n.toNat (by omega)]
  rfl
theorem impl_text {l : List (S46)} (hlen : l.length ≤ 20) (hv : ∀ i, i < l.length → GoodP (l.getD i z46)) : Ev (fun k => impl_PushesText.l0 k (⟨#[]⟩ : ByteArray) l (l.length : Int) 0) (txt l l.length) := by
  refine ev_loop2 (g := fun k (s : ByteArray × Int) => impl_PushesText.l0 k s.1 l (l.length : Int) s.2) (fun i => (txt l i, (i : Int))) l.length ?_ fun i hi ih => ?_
  · refine Ev.step (fun k => by rw [impl_PushesText.l0]) ?_
    exact Ev.iteF (by omega) (Ev.now _)
  · have hp := hv i hi
    have hs := txt_size hv i (by omega)
    obtain ⟨⟨v1, v2⟩, v4, v5⟩ := hp
    have a := dec_size (l.getD i z46).f0.f0
    have b := dec_size (l.getD i z46).f0.f1
    have c := dec_size (l.getD i z46).f2
    have e := word_size v1.1 v1.2
    have tz : ((dec (l.getD i z46).f0.f0 ++ sp1) ++ dec (l.getD i z46).f0.f1).size ≤ 9 := by
      simp only [ByteArray.size_append, sp_size]
      omega
    refine Ev.step (fun k => by rw [impl_PushesText.l0]) ?_
    simp only [rdq]
    refine Ev.iteT (by omega) (Ev.iteT (by omega) (Ev.iteT (by omega) ?_))
    rw [w64 (n := (i : Int) + 1) (by omega)]
    refine Ev.bind (ev_const (impl_cell v4 v5)) (Ev.iteT (by omega) (Ev.bind (Ev.now words) ?_))
    refine Ev.iteT v1.1 (Ev.iteT (by show _ < (4 : Int); omega) ?_)
    refine Ev.iteT (by show _ + 1 + (wordAt _).size ≤ _; omega) (Ev.iteT (by show _ + 1 + (wordAt _).size + 1 ≤ _; omega) (Ev.bind (ev_const (impl_dec16 v2.1 v2.2)) ?_))
    refine Ev.iteT (by show _ + (wordAt _).size + 1 + _ ≤ _; omega) (Ev.iteT (by show _ + (wordAt _).size + 1 + _ + 1 ≤ _; omega) (Ev.iteT (by show _ + (wordAt _).size + 1 + _ + 1 ≤ _; omega) ?_))
    exact ih
theorem impl_one {p : S46} (hp : ok46 p) : impl_PushesText_1.f p.f0.f0 p.f0.f1 p.f1 p.f2 = some (!decide (GoodP p)) := by
  have hb := impl_bad hp
  unfold impl_PushesText_1.f
  rw [hb]
  simp only [Option.bind_some]
  by_cases h : PushOk p
  · have e : impl_Cell_placed.f p.f0.f0 p.f0.f1 = some (decide ((0 ≤ p.f0.f0 ∧ p.f0.f0 ≤ 23) ∧ 0 ≤ p.f0.f1 ∧ p.f0.f1 ≤ 23)) := by
      have h2 := hp.1
      unfold impl_Cell_placed.f
      simp only [in_some, Option.bind_some]
      rw [w64 (n := p.f0.f0) (by obtain ⟨⟨x, y⟩, _⟩ := h2; omega), w64 (n := p.f0.f1) (by obtain ⟨_, x, y⟩ := h2; omega)]
      by_cases h4 : 0 ≤ p.f0.f0 ∧ p.f0.f0 ≤ 23 <;> simp [h4]
    rw [e]
    simp only [h, decide_true, Bool.not_true, Option.bind_some, true_and]
    rw [if_neg (by decide)]
    refine congrArg some (congrArg not (decide_eq_decide.2 ⟨fun c => ⟨h, by omega, by omega⟩, fun c => ?_⟩))
    obtain ⟨_, c1, c2⟩ := c
    omega
  · simp [h, GoodP]
theorem impl_any (l : List (S46)) (hx : ∀ y ∈ l, ok46 y) (hl : l.length ≤ 1048576) :
    ∃ r, Ev (fun k => slices_ContainsFunc__impl_PushesText_1.f k l) r ∧ (r = true ↔ ∃ i, i < l.length ∧ ¬ GoodP (l.getD i z46)) := by
  obtain ⟨q, h1, h2⟩ := idx_loop (g := fun k i => slices_IndexFunc__impl_PushesText_1.l0 k l l.length i) (fun i => ¬ GoodP (l.getD i z46)) l.length
    (Ev.step (fun k => by rw [slices_IndexFunc__impl_PushesText_1.l0]) (Ev.iteF (by omega) (Ev.now _)))
    (fun i hi hp => by
      have hv := impl_one (getD_mem hx z46 i hi)
      refine Ev.step (fun k => by rw [slices_IndexFunc__impl_PushesText_1.l0]) ?_
      simp only [rdq]
      exact Ev.iteT (by omega) (Ev.iteT (by omega) (Ev.iteT (by omega) (Ev.bindc hv (Ev.iteT (by rw [decide_eq_false hp]; rfl) (Ev.now _))))))
    (fun i hi hp s hs => by
      have hv := impl_one (getD_mem hx z46 i hi)
      refine Ev.step (fun k => by rw [slices_IndexFunc__impl_PushesText_1.l0]) ?_
      simp only [rdq]
      refine Ev.iteT (by omega) (Ev.iteT (by omega) (Ev.iteT (by omega) (Ev.bindc hv (Ev.iteF (by rw [decide_eq_true (Classical.not_not.1 hp)]; decide) ?_))))
      rw [w64 (by omega)]
      exact hs)
  refine ⟨decide (q ≥ 0), ?_, by simpa using h2⟩
  unfold slices_ContainsFunc__impl_PushesText_1.f slices_IndexFunc__impl_PushesText_1.f
  exact Ev.bind h1 (Ev.now _)
theorem core (x0 : List (S46)) (ox0 : ∀ y ∈ x0, ok46 y) (nx0 : x0.length ≤ 1048576) : ∃ r : ByteArray, Ev (fun k => spec_PushesText.f k x0) r ∧ Ev (fun k => impl_PushesText.f k x0) r ∧ True := by
  obtain ⟨r, s1, s2⟩ := spec_pushes x0 ox0 nx0
  obtain ⟨q, i1, i2⟩ := impl_any x0 ox0 nx0
  unfold spec_PushesText.f impl_PushesText.f
  have jF : Ev (fun k => impl_PushesText.j0 k x0 true) (⟨#[]⟩ : ByteArray) := Ev.step (fun k => by rw [impl_PushesText.j0]) (Ev.iteT rfl (Ev.now _))
  by_cases h : (x0.length : Int) > 20
  · have hr : r = false := by
      cases r
      · rfl
      · have := (s2.1 rfl).2; omega
    subst hr
    exact ⟨⟨#[]⟩, Ev.bind s1 (Ev.iteF (by simp) (Ev.now _)), Ev.iteT h jF, trivial⟩
  · cases q
    · have hg : ∀ i, i < x0.length → GoodP (x0.getD i z46) := fun i hi => Classical.byContradiction fun c => Bool.false_ne_true (i2.2 ⟨i, hi, c⟩)
      have hr : r = true := s2.2 ⟨hg, by omega⟩
      subst hr
      refine ⟨_, Ev.bind s1 (Ev.iteT rfl (Ev.bind (spec_text (by omega) hg) (Ev.now _))), Ev.iteF h (Ev.bind i1 (Ev.step (fun k => by rw [impl_PushesText.j0]) (Ev.iteF (by simp) (impl_text (by omega) hg)))), trivial⟩
    · have hr : r = false := by
        cases r
        · rfl
        · obtain ⟨i, hi, c⟩ := i2.1 rfl
          exact absurd ((s2.1 rfl).1 i hi) c
      subst hr
      exact ⟨⟨#[]⟩, Ev.bind s1 (Ev.iteF (by simp) (Ev.now _)), Ev.iteF h (Ev.bind i1 jF), trivial⟩

theorem FnExactPushesText : QFnExactPushesText.Pure := by
  rintro x0 wx0
  obtain ⟨wx0, mx0⟩ := wx0
  have mx0 : x0.length ≤ 9223372036854775807 := mx0
  refine Ev.rounds (r := true) ?_
  unfold laws_FnExactPushesText.f
  obtain ⟨r_0, e_0, c_0⟩ := szPushS x0 (1048576) (by omega) mx0
  refine Ev.bindc e_0 ?_
  rcases c_0 with c_0 | ⟨rfl, c_0⟩
  · exact Ev.iteT c_0 (Ev.now _)
  refine Ev.iteF (by omega) ?_
  refine Ev.bind (toPushS _ (by first | omega | ((try dsimp only); (try simp only [List.length_map, List.length_range, List.length_nil]); omega) | (simp; omega))) ?_
  try dsimp only
  obtain ⟨r0, hs, hi, hb⟩ := core (x0.map cv49_46) (fun y hy => by obtain ⟨z, hz, rfl⟩ := List.mem_map.1 hy; exact okof49_46 (wx0 z hz)) (by first | omega | ((try dsimp only); (try simp only [List.length_map, List.length_range, List.length_nil]); omega) | (simp; omega))
  refine Ev.bind hs ?_
  try dsimp only
  refine Ev.bind (toPushS _ (by first | omega | ((try dsimp only); (try simp only [List.length_map, List.length_range, List.length_nil]); omega) | (simp; omega))) ?_
  try dsimp only
  refine Ev.bind hi ?_
  try dsimp only
  refine Ev.iteT (by first | rfl | (first | omega | ((try dsimp only); (try simp only [List.length_map, List.length_range, List.length_nil]); omega) | (simp; omega))) ?_
  try dsimp only
  refine Ev.bind (toPushS _ (by first | omega | ((try dsimp only); (try simp only [List.length_map, List.length_range, List.length_nil]); omega) | (simp; omega))) ?_
  try dsimp only
  refine Ev.bind (eqPushS _ (by first | omega | ((try dsimp only); (try simp only [List.length_map, List.length_range, List.length_nil]); omega) | (simp; omega))) ?_
  try dsimp only
  refine Ev.iteT (by first | rfl | (first | omega | ((try dsimp only); (try simp only [List.length_map, List.length_range, List.length_nil]); omega) | (simp; omega))) ?_
  try dsimp only
  exact Ev.now _
end Go.Proofs.YtnbjijkpenlpbaaDoor.Pure
