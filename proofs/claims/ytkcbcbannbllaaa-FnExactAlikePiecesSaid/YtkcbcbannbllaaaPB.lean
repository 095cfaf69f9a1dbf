/- Plain laws that the pure sides of our laws share: numbers that fit, loops that end, lists read by an index. No condition beside what each names. -/
import Derived.IntWalk
import Derived.OpenShut
import Derived.WalkSmall
import Derived.Test.YtkcbcbannbllaaaWWords
namespace Go.Proofs.YtkcbcbannbllaaaB
open Go.RowKit Go.Proofs.YtkcbcbannbllaaaW.PrintWords
theorem w64 {n : Int} (h : -9223372036854775808 ≤ n ∧ n ≤ 9223372036854775807) : wrap64 n = n := IntWalk.wrap64_in n h
theorem w8 {n : Int} (h : -128 ≤ n ∧ n ≤ 127) : IntKind.i8.wrap n = n := IntWalk.i8_in n h
theorem w16 {n : Int} (h : -32768 ≤ n ∧ n ≤ 32767) : IntKind.i16.wrap n = n := IntWalk.i16_in n h
theorem i8b {n : Int} (h : (Lit.int .i8 n).wf = true) : -128 ≤ n ∧ n ≤ 127 := bounds_i8 h
theorem i16b {n : Int} (h : (Lit.int .i16 n).wf = true) : -32768 ≤ n ∧ n ≤ 32767 := bounds_i16 h
theorem i64b {n : Int} (h : (Lit.int .i64 n).wf = true) : -9223372036854775808 ≤ n ∧ n ≤ 9223372036854775807 := bounds_i64 h
section
variable {σ ρ α β : Type}
theorem Ev.some_eq {g : Nat → Option α} {r q : α} (h : Ev g r) (e : r = q) : Ev g q := e ▸ h
theorem ev_const {a : Option α} {r : α} (h : a = some r) : Ev (fun _ => a) r := ⟨0, fun _ _ => h⟩
/-- A loop goes through the states St 0, St 1, .., St n, and ends there. -/
theorem ev_loop {g : Nat → σ → Option ρ} (St : Nat → σ) (n : Nat) {r : ρ} (hend : ∃ K, ∀ k, K ≤ k → g (k + 1) (St n) = some r)
    (hstep : ∀ i, i < n → ∃ K, ∀ k, K ≤ k → g (k + 1) (St i) = g k (St (i + 1))) : Ev (fun k => g k (St 0)) r := by
  have h : ∀ d, d ≤ n → Ev (fun k => g k (St (n - d))) r := by
    intro d
    induction d with
    | zero =>
      intro _
      obtain ⟨K, h⟩ := hend
      refine ⟨K + 1, fun k hk => ?_⟩
      obtain ⟨m, rfl⟩ : ∃ m, k = m + 1 := ⟨k - 1, by omega⟩
      exact h m (by omega)
    | succ d ih =>
      intro hd
      obtain ⟨K, h⟩ := ih (by omega)
      obtain ⟨K', h'⟩ := hstep (n - (d + 1)) (by omega)
      refine ⟨max K K' + 1, fun k hk => ?_⟩
      obtain ⟨m, rfl⟩ : ∃ m, k = m + 1 := ⟨k - 1, by omega⟩
      show g (m + 1) (St (n - (d + 1))) = some r
      rw [h' m (by omega), show n - (d + 1) + 1 = n - d by omega]
      exact h m (by omega)
  have := h n (Nat.le_refl _)
  rwa [Nat.sub_self] at this
theorem ev_at {g : Nat → Option α} {r : α} (h : Ev g r) : ∃ K, ∀ k, K ≤ k → g k = some r := h
/-- A test of all of n: it holds of all, or there is a first one of which it does not. -/
theorem first_or_all (p : Nat → Prop) [DecidablePred p] (n : Nat) : (∀ i, i < n → p i) ∨ ∃ j, j < n ∧ ¬ p j ∧ ∀ i, i < j → p i := by
  induction n with
  | zero => exact .inl (by simp)
  | succ n ih =>
    rcases ih with h | ⟨j, h1, h2, h3⟩
    · by_cases hp : p n
      · exact .inl fun i hi => by
          rcases Nat.lt_succ_iff_lt_or_eq.1 hi with hi | rfl
          · exact h i hi
          · exact hp
      · exact .inr ⟨n, Nat.lt_succ_self n, hp, h⟩
    · exact .inr ⟨j, Nat.lt_succ_of_lt h1, h2, h3⟩
theorem getD_nat (l : List α) (i : Nat) (z : α) (h : i < l.length) : l.getD ((i : Int)).toNat z = l[i] := by
  rw [Int.toNat_natCast, List.getD_eq_getElem?_getD, List.getElem?_eq_getElem h]; rfl
/-- Filling a row of zeros from the left. -/
theorem fill_step (f : α → β) (l : List α) (z : β) (i : Nat) (h : i < l.length) :
    (((l.take i).map f) ++ List.replicate (l.length - i) z).set i (f l[i]) = ((l.take (i + 1)).map f) ++ List.replicate (l.length - (i + 1)) z := by
  have hl : ((l.take i).map f).length = i := by simp; omega
  rw [List.set_append_right _ _ (by omega), hl, Nat.sub_self]
  obtain ⟨m, hm⟩ : ∃ m, l.length - i = m + 1 := ⟨l.length - i - 1, by omega⟩
  rw [hm, List.replicate_succ, List.set_cons_zero, List.take_succ_eq_append_getElem h, List.map_append, List.append_assoc, show l.length - (i + 1) = m by omega]
  rfl
theorem fill_end (f : α → β) (l : List α) (z : β) : ((l.take l.length).map f) ++ List.replicate (l.length - l.length) z = l.map f := by simp
theorem fill_len (f : α → β) (l : List α) (z : β) (i : Nat) (h : i ≤ l.length) : (((l.take i).map f) ++ List.replicate (l.length - i) z).length = l.length := by simp; omega
/-- A loop that asks each of n places: its answer is whether all hold. -/
theorem ev_all (P : Nat → Prop) {g : Nat → Int → Option Bool} {n : Nat} (hend : ∀ k, g (k + 1) (n : Int) = some true)
    (hs : ∀ i : Nat, i < n → P i → ∃ K, ∀ k, K ≤ k → g (k + 1) (i : Int) = g k ((i + 1 : Nat) : Int)) (hn : ∀ i : Nat, i < n → ¬ P i → ∃ K, ∀ k, K ≤ k → g (k + 1) (i : Int) = some false) :
    ∃ r, Ev (fun k => g k 0) r ∧ (r = true ↔ ∀ i, i < n → P i) := by
  have : DecidablePred P := fun _ => Classical.propDecidable _
  rcases first_or_all P n with h | ⟨j, h1, h2, h3⟩
  · exact ⟨true, ev_loop (g := g) (fun i => (i : Int)) n ⟨0, fun k _ => hend k⟩ (fun i hi => hs i hi (h i hi)), by simpa using h⟩
  · refine ⟨false, ev_loop (g := g) (fun i => (i : Int)) j (hn j h1 h2) (fun i hi => hs i (by omega) (h3 i hi)), ?_⟩
    simp only [Bool.false_eq_true, false_iff]
    exact fun h => h2 (h j h1)
/-- A loop that fills a row of zeros with what is made of each element. -/
theorem ev_fill (f : α → β) (l : List α) (z : β) {g : Nat → List β → Int → Option (List β)} (hend : ∀ k x, g (k + 1) x (l.length : Int) = some x)
    (hs : ∀ (i : Nat) (h : i < l.length) (x : List β), x.length = l.length → ∃ K, ∀ k, K ≤ k → g (k + 1) x (i : Int) = g k (x.set i (f l[i])) ((i + 1 : Nat) : Int)) :
    Ev (fun k => g k (List.replicate l.length z) 0) (l.map f) := by
  have h := ev_loop (g := fun k (s : List β × Int) => g k s.1 s.2) (fun i => (((l.take i).map f) ++ List.replicate (l.length - i) z, (i : Int))) l.length (r := l.map f)
    ⟨0, fun k _ => by show g (k + 1) _ _ = _; rw [fill_end]; exact hend k _⟩ (fun i hi => by
      obtain ⟨K, h⟩ := hs i hi (((l.take i).map f) ++ List.replicate (l.length - i) z) (fill_len f l z i (by omega))
      refine ⟨K, fun k hk => ?_⟩
      show g (k + 1) _ _ = g k _ _
      rw [h k hk, fill_step f l z i hi])
  simpa using h
theorem eq_of_getD {l m : List α} (z : α) (h : l.length = m.length) : (∀ i, i < l.length → l.getD i z = m.getD i z) ↔ l = m := by
  constructor
  · intro hh
    refine List.ext_getElem h fun i h1 h2 => ?_
    have := hh i h1
    rwa [List.getD_eq_getElem?_getD, List.getD_eq_getElem?_getD, List.getElem?_eq_getElem h1, List.getElem?_eq_getElem h2] at this
  · rintro rfl _ _; rfl
theorem bool_same {a b : Bool} {p : Prop} (h : a = true ↔ p) (k : b = true ↔ p) : a = b := by
  cases a <;> cases b <;> simp_all
theorem Ev.bindc {a : Option α} {f : Nat → α → Option β} {x : α} {r : β} (h : a = some x) (k : Ev (fun n => f n x) r) : Ev (fun n => a.bind (f n)) r := Ev.bind (ev_const h) k
theorem Ev.iteT {c : Prop} [Decidable c] {f g : Nat → Option α} {r : α} (h : c) (k : Ev f r) : Ev (fun n => if c then f n else g n) r := Ev.congr (fun _ => if_pos h) k
theorem Ev.iteF {c : Prop} [Decidable c] {f g : Nat → Option α} {r : α} (h : ¬ c) (k : Ev g r) : Ev (fun n => if c then f n else g n) r := Ev.congr (fun _ => if_neg h) k
/-- A loop goes from one state to the next; told from its end. -/
theorem ev_loop2 {g : Nat → σ → Option ρ} (St : Nat → σ) (n : Nat) {r : ρ} (hend : Ev (fun k => g k (St n)) r) (hstep : ∀ i, i < n → Ev (fun k => g k (St (i + 1))) r → Ev (fun k => g k (St i)) r) : Ev (fun k => g k (St 0)) r := by
  have h : ∀ d, d ≤ n → Ev (fun k => g k (St (n - d))) r := by
    intro d
    induction d with
    | zero => intro _; exact hend
    | succ d ih =>
      intro hd
      refine hstep (n - (d + 1)) (by omega) ?_
      rw [show n - (d + 1) + 1 = n - d by omega]
      exact ih (by omega)
  have := h n (Nat.le_refl _)
  rwa [Nat.sub_self] at this
/-- Some rounds of a loop at once. -/
theorem Ev.steps {g f : Nat → Option α} {r : α} (m : Nat) (h : ∀ k, g (k + m) = f k) (k : Ev f r) : Ev g r := by
  obtain ⟨K, k⟩ := k
  refine ⟨K + m, fun n hn => ?_⟩
  obtain ⟨q, rfl⟩ : ∃ q, n = q + m := ⟨n - m, by omega⟩
  rw [h]
  exact k q (by omega)
theorem Ev.value {a : Option α} {r : α} (h : Ev (fun _ => a) r) : a = some r := by
  obtain ⟨K, h⟩ := h
  exact h K (Nat.le_refl _)
/-- A loop that fills a row of zeros with what is made of each element; told from its end. -/
theorem ev_fill2 (f : α → β) (l : List α) (z : β) {g : Nat → List β → Int → Option ρ} {r : ρ} (hend : Ev (fun k => g k (l.map f) (l.length : Int)) r)
    (hs : ∀ (i : Nat) (h : i < l.length) (x : List β), x.length = l.length → Ev (fun k => g k (x.set i (f l[i])) ((i + 1 : Nat) : Int)) r → Ev (fun k => g k x (i : Int)) r) :
    Ev (fun k => g k (List.replicate l.length z) 0) r := by
  have h := ev_loop2 (g := fun k (s : List β × Int) => g k s.1 s.2) (fun i => (((l.take i).map f) ++ List.replicate (l.length - i) z, (i : Int))) l.length (r := r)
    (by dsimp only; rw [fill_end]; exact hend) (fun i hi h => by
      dsimp only at h ⊢
      refine hs i hi _ (fill_len f l z i (by omega)) ?_
      rw [fill_step f l z i hi]
      exact h)
  simpa using h
/-- A loop that writes each element of a row anew. -/
theorem ev_mark (mk : Int → α) (c : Int) (l : List α) (k0 : Int) {g : Nat → List α → Int → Int → Option ρ} {r : ρ} (hend : Ev (fun k => g k ((List.range l.length).map fun (j : Nat) => mk (k0 + c * (j : Int))) (k0 + c * (l.length : Int)) (l.length : Int)) r)
    (hs : ∀ (i : Nat) (x : List α), i < l.length → x.length = l.length → Ev (fun k => g k (x.set i (mk (k0 + c * (i : Int)))) (k0 + c * ((i + 1 : Nat) : Int)) ((i + 1 : Nat) : Int)) r → Ev (fun k => g k x (k0 + c * (i : Int)) (i : Int)) r) :
    Ev (fun k => g k l k0 0) r := by
  have h := ev_loop2 (g := fun k (s : List α × Int × Int) => g k s.1 s.2.1 s.2.2) (fun i => (((List.range i).map fun (j : Nat) => mk (k0 + c * (j : Int))) ++ l.drop i, k0 + c * (i : Int), (i : Int))) l.length (r := r)
    (by dsimp only; rw [List.drop_length, List.append_nil]; exact hend) (fun i hi h => by
      dsimp only at h ⊢
      refine hs i _ hi (by simp; omega) ?_
      have e : ((((List.range i).map fun (j : Nat) => mk (k0 + c * (j : Int))) ++ l.drop i).set i (mk (k0 + c * (i : Int)))) = ((List.range (i + 1)).map fun (j : Nat) => mk (k0 + c * (j : Int))) ++ l.drop (i + 1) := by
        rw [List.set_append_right _ _ (by simp)]
        simp only [List.length_map, List.length_range, Nat.sub_self]
        rw [List.drop_eq_getElem_cons hi, List.set_cons_zero, List.range_succ, List.map_append]
        simp
      rw [e]
      exact h)
  simpa using h
theorem mark_len (f : Int → α) (k0 c : Int) (n : Nat) : ((List.range n).map fun (j : Nat) => f (k0 + c * (j : Int))).length = n := by simp
theorem mark_at (f : Int → α) (k0 c : Int) (n i : Nat) (z : α) (h : i < n) : ((List.range n).map fun (j : Nat) => f (k0 + c * (j : Int))).getD i z = f (k0 + c * (i : Int)) := by
  rw [List.getD_eq_getElem?_getD, List.getElem?_map, List.getElem?_range h]; rfl
theorem getD_at (l : List α) (i : Nat) (z : α) (h : i < l.length) : l.getD i z = l[i] := by
  rw [List.getD_eq_getElem?_getD, List.getElem?_eq_getElem h]; rfl
theorem getD_set (l : List α) (i : Nat) (z a : α) (h : i < l.length) : (l.set i a).getD i z = a := by
  rw [List.getD_eq_getElem?_getD, List.getElem?_set_self h]; rfl
theorem tmod_nonneg {a : Int} (b : Int) (h : 0 ≤ a) : Int.tmod a b = a % b := Int.tmod_eq_emod_of_nonneg h
theorem tmod_neg {a : Int} (b : Int) (h : a ≤ 0) : Int.tmod a b = -((-a) % b) := by
  have e : a = -(-a) := by omega
  rw [e, Int.neg_tmod, Int.tmod_eq_emod_of_nonneg (by omega)]
  simp
/-- A loop that asks each of n places and leaves at the first that fails. -/
theorem ev_scan (P : Nat → Prop) {g : Nat → Int → Option ρ} {n : Nat} {r t : ρ} (hend : (∀ i, i < n → P i) → Ev (fun k => g k (n : Int)) r)
    (hs : ∀ i : Nat, i < n → P i → ∀ s, Ev (fun k => g k ((i + 1 : Nat) : Int)) s → Ev (fun k => g k (i : Int)) s) (hn : ∀ i : Nat, i < n → ¬ P i → Ev (fun k => g k (i : Int)) t) :
    ((∀ i, i < n → P i) → Ev (fun k => g k 0) r) ∧ ((¬ ∀ i, i < n → P i) → Ev (fun k => g k 0) t) := by
  have : DecidablePred P := fun _ => Classical.propDecidable _
  constructor
  · intro h
    exact ev_loop2 (g := g) (fun i => (i : Int)) n (hend h) fun i hi he => hs i hi (h i hi) _ he
  · intro h
    rcases first_or_all P n with h' | ⟨j, h1, h2, h3⟩
    · exact absurd h' h
    · exact ev_loop2 (g := g) (fun i => (i : Int)) j (hn j h1 h2) fun i hi he => hs i (by omega) (h3 i hi) _ he
/-- The same, told by a Boolean. -/
theorem ev_scanB (P : Nat → Prop) {g : Nat → Int → Option Bool} {n : Nat} {r : Bool} {q : Prop} (hr : r = true ↔ q) (hend : (∀ i, i < n → P i) → Ev (fun k => g k (n : Int)) r)
    (hs : ∀ i : Nat, i < n → P i → ∀ s, Ev (fun k => g k ((i + 1 : Nat) : Int)) s → Ev (fun k => g k (i : Int)) s) (hn : ∀ i : Nat, i < n → ¬ P i → Ev (fun k => g k (i : Int)) false) :
    ∃ s, Ev (fun k => g k 0) s ∧ (s = true ↔ (∀ i, i < n → P i) ∧ q) := by
  have h := ev_scan P hend hs hn
  by_cases ha : ∀ i, i < n → P i
  · exact ⟨r, h.1 ha, by rw [hr]; exact ⟨fun h => ⟨ha, h⟩, fun h => h.2⟩⟩
  · exact ⟨false, h.2 ha, by constructor <;> intro h' <;> simp_all⟩
/-- Two loops that go through the same states come to the same end. -/
theorem ev_pair (Inv : Nat → σ → Prop) (n : Nat) (G H : Nat → σ → Nat → Option ρ) (Q : ρ → Prop) (hend : ∀ s, Inv n s → ∃ r, Ev (G n s) r ∧ Ev (H n s) r ∧ Q r)
    (hstep : ∀ i s, i < n → Inv i s → (∃ s', Inv (i + 1) s' ∧ ∀ r, (Ev (G (i + 1) s') r → Ev (G i s) r) ∧ (Ev (H (i + 1) s') r → Ev (H i s) r)) ∨ ∃ r, Ev (G i s) r ∧ Ev (H i s) r ∧ Q r) :
    ∀ s, Inv 0 s → ∃ r, Ev (G 0 s) r ∧ Ev (H 0 s) r ∧ Q r := by
  have h : ∀ d, d ≤ n → ∀ s, Inv (n - d) s → ∃ r, Ev (G (n - d) s) r ∧ Ev (H (n - d) s) r ∧ Q r := by
    intro d
    induction d with
    | zero => intro _ s hs; exact hend s hs
    | succ d ih =>
      intro hd s hs
      rcases hstep (n - (d + 1)) s (by omega) hs with ⟨s', h1, h2⟩ | h
      · rw [show n - (d + 1) + 1 = n - d by omega] at h1 h2
        obtain ⟨r, h3, h4, h5⟩ := ih (by omega) s' h1
        exact ⟨r, (h2 r).1 h3, (h2 r).2 h4, h5⟩
      · exact h
  have := h n (Nat.le_refl _)
  rwa [Nat.sub_self] at this
theorem getD_mem {p : α → Prop} {l : List α} (h : ∀ y ∈ l, p y) (z : α) (i : Nat) (hi : i < l.length) : p (l.getD i z) := by
  rw [getD_at _ _ _ hi]; exact h _ (List.getElem_mem hi)
end
end Go.Proofs.YtkcbcbannbllaaaB
