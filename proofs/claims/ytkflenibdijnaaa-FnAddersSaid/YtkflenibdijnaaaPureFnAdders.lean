/- The plain law of FnAdders: what the walk computes is always true. -/
import Derived.Test.YtkflenibdijnaaaPFnAddersx14
import Derived.Test.YtkflenibdijnaaaTFnAddersa
import Derived.Laws.BitsLemmas
import Derived.Lib.EndianBits
namespace Go.Proofs.Ytkflenibdijnaaa.Pure
open Go.RowKit Go.Proofs.Ytkflenibdijnaaa.PFnAdders Go.Proofs.YtkflenibdijnaaaW.PrintWords Go.Proofs.YtkflenibdijnaaaW.PrintLast Go.Proofs.YtkflenibdijnaaaB
set_option linter.unusedVariables false
set_option linter.unusedSimpArgs false
def ok61 (x : S61) : Prop := (-128 ≤ x.f0 ∧ x.f0 ≤ 127) ∧ (-32768 ≤ x.f1 ∧ x.f1 ≤ 32767) ∧ (-32768 ≤ x.f2 ∧ x.f2 ≤ 32767)
/-- What a node at place j may be, of a network with n inputs. -/
def NodeOk (n j : Int) (x : S61) : Prop := (x.f0 = 0 ∧ 0 ≤ x.f1 ∧ x.f1 < n ∧ x.f2 = 0) ∨ (x.f0 = 1 ∧ x.f1 = 0 ∧ x.f2 = 0) ∨ ((x.f0 = 2 ∨ x.f0 = 3) ∧ 0 ≤ x.f1 ∧ x.f1 < j ∧ 0 ≤ x.f2 ∧ x.f2 < j)
structure NetOk (n : Int) (l : List (S61)) (m : List Int) : Prop where
  inputs : 1 ≤ n ∧ n ≤ 6
  len : 1 ≤ l.length ∧ l.length ≤ 80
  outs : 1 ≤ m.length ∧ m.length ≤ 8
  node : ∀ i : Nat, i < l.length → NodeOk n i (l.getD i z61)
  out : ∀ i : Nat, i < m.length → 0 ≤ m.getD i 0 ∧ m.getD i 0 < l.length
theorem in_same : spec_l00In.f = impl_in.f := rfl
theorem in_some (a b c : Int) : impl_in.f a b c = some (decide (b ≤ a ∧ a ≤ c)) := by
  unfold impl_in.f
  by_cases h : b ≤ a <;> simp [h]
theorem rd0 (n : Int) (l : List (S61)) (m : List Int) : rd_T29 [(⟨n, l, m⟩ : S29)] 0 = ⟨n, l, m⟩ := id rfl
theorem rdn (l : List (S61)) (i : Nat) : rd_T61 l (i : Int) = l.getD i z61 := id rfl
theorem rdi (l : List Int) (i : Nat) : rd l (i : Int) = l.getD i 0 := id rfl
theorem ok_at {l : List (S61)} (h : ∀ y ∈ l, ok61 y) (i : Nat) : ok61 (l.getD i z61) := by
  by_cases hi : i < l.length
  · rw [getD_at _ _ _ hi]; exact h _ (List.getElem_mem hi)
  · rw [List.getD_eq_getElem?_getD, List.getElem?_eq_none (by omega)]; simp [ok61, z61]
theorem i16_at {l : List Int} (h : ∀ y ∈ l, -32768 ≤ y ∧ y ≤ 32767) (i : Nat) : -32768 ≤ l.getD i 0 ∧ l.getD i 0 ≤ 32767 := by
  by_cases hi : i < l.length
  · rw [getD_at _ _ _ hi]; exact h _ (List.getElem_mem hi)
  · rw [List.getD_eq_getElem?_getD, List.getElem?_eq_none (by omega)]; simp
theorem impl_node (n : Int) (x : S61) (hn : -128 ≤ n ∧ n ≤ 127) (hx : ok61 x) (i : Nat) (hi : i ≤ 1048576) :
    ∃ r, Ev (fun k => impl_Node_ok.f k x.f0 x.f1 x.f2 (wrap64 n) i) r ∧ (r = true ↔ NodeOk n i x) := by
  obtain ⟨x0, x1, x2⟩ := x
  obtain ⟨b0, b1, b2⟩ := hx
  unfold impl_Node_ok.f NodeOk
  dsimp only at b0 b1 b2 ⊢
  rw [w64 (n := n) (by omega), w64 (n := x1) (by omega), w64 (n := x2) (by omega), w64 (n := n - 1) (by omega)]
  have hj : ∀ b, Ev (fun k => impl_Node_ok.j0 k i x1 x2 b) (b && (decide (0 ≤ x1 ∧ x1 ≤ (i : Int) - 1) && decide (0 ≤ x2 ∧ x2 ≤ (i : Int) - 1))) := by
    intro b
    refine Ev.step (f := fun _ => some (b && (decide (0 ≤ x1 ∧ x1 ≤ (i : Int) - 1) && decide (0 ≤ x2 ∧ x2 ≤ (i : Int) - 1)))) (fun k => ?_) (Ev.now _)
    simp only [impl_Node_ok.j0, in_some, Option.bind_some]
    rw [w64 (by omega)]
    cases b <;> by_cases h : 0 ≤ x1 ∧ x1 ≤ (i : Int) - 1 <;> simp [h]
  by_cases h0 : x0 = 0
  · subst h0
    refine ⟨_, Ev.iteT rfl (Ev.bindc (in_some _ _ _) (ev_const (r := decide (0 ≤ x1 ∧ x1 ≤ n - 1) && (x2 == 0)) ?_)), ?_⟩
    · by_cases h : 0 ≤ x1 ∧ x1 ≤ n - 1 <;> simp [h]
    · simp; omega
  · by_cases h1 : x0 = 1
    · subst h1
      refine ⟨_, Ev.iteF (by simp) (Ev.iteT rfl (ev_const (r := decide (x1 = 0) && (x2 == 0)) ?_)), ?_⟩
      · by_cases h : x1 = 0 <;> simp [h]
      · simp
    · by_cases h2 : x0 = 2
      · exact ⟨_, Ev.iteF h0 (Ev.iteF h1 (Ev.iteT h2 (hj _))), by subst h2; simp; omega⟩
      · exact ⟨_, Ev.iteF h0 (Ev.iteF h1 (Ev.iteF h2 (hj _))), by simp; omega⟩
theorem impl_out (n : Int) (l : List (S61)) (m : List Int) (hl : l.length ≤ 1048576) (hl0 : 1 ≤ l.length) (hy : ∀ y ∈ m, -32768 ≤ y ∧ y ≤ 32767) (hm : m.length ≤ 1048576) :
    ∃ r, Ev (fun k => slices_ContainsFunc__impl_ValidNetwork_1.f k m [(⟨n, l, m⟩ : S29)]) r ∧ (r = false ↔ ∀ i : Nat, i < m.length → 0 ≤ m.getD i 0 ∧ m.getD i 0 < l.length) := by
  unfold slices_ContainsFunc__impl_ValidNetwork_1.f slices_IndexFunc__impl_ValidNetwork_1.f
  have hv : ∀ i : Nat, i < m.length → impl_ValidNetwork_1.f (rd m i) [(⟨n, l, m⟩ : S29)] = some (!decide (0 ≤ m.getD i 0 ∧ m.getD i 0 < l.length)) := fun i hi => by
    have hb := i16_at hy i
    unfold impl_ValidNetwork_1.f
    simp only [rd0, rdi, in_some, Option.bind_some]
    rw [if_pos (by simp), w64 (n := m.getD i 0) (by omega), w64 (by omega)]
    congr 3
    simp; omega
  rcases first_or_all (fun i => 0 ≤ m.getD i 0 ∧ m.getD i 0 < (l.length : Int)) m.length with h | ⟨j, h1, h2, h3⟩
  · refine ⟨false, Ev.bind (a := -1) (ev_loop2 (g := fun k i => slices_IndexFunc__impl_ValidNetwork_1.l0 k m m.length i [(⟨n, l, m⟩ : S29)]) (fun i => (i : Int)) m.length ?_ fun i hi ih => ?_) (ev_const (by simp)), by simpa using h⟩
    · refine Ev.step (fun k => by rw [slices_IndexFunc__impl_ValidNetwork_1.l0]) ?_
      exact Ev.iteF (by omega) (Ev.now _)
    · refine Ev.step (fun k => by rw [slices_IndexFunc__impl_ValidNetwork_1.l0]) ?_
      refine Ev.iteT (by omega) (Ev.iteT (by omega) (Ev.iteT (by omega) (Ev.bindc (hv i hi) (Ev.iteF (by simpa using h i hi) ?_))))
      rw [w64 (by omega)]
      exact ih
  · refine ⟨true, Ev.bind (a := (j : Int)) (ev_loop2 (g := fun k i => slices_IndexFunc__impl_ValidNetwork_1.l0 k m m.length i [(⟨n, l, m⟩ : S29)]) (fun i => (i : Int)) j ?_ fun i hi ih => ?_) (ev_const (by simp)), ?_⟩
    · refine Ev.step (fun k => by rw [slices_IndexFunc__impl_ValidNetwork_1.l0]) ?_
      exact Ev.iteT (by omega) (Ev.iteT (by omega) (Ev.iteT (by omega) (Ev.bindc (hv j h1) (Ev.iteT (by rw [decide_eq_false h2]; rfl) (Ev.now _)))))
    · refine Ev.step (fun k => by rw [slices_IndexFunc__impl_ValidNetwork_1.l0]) ?_
      refine Ev.iteT (by omega) (Ev.iteT (by omega) (Ev.iteT (by omega) (Ev.bindc (hv i (by omega)) (Ev.iteF (by simpa using h3 i hi) ?_))))
      rw [w64 (by omega)]
      exact ih
    · simp only [Bool.true_eq_false, false_iff]; exact fun h => h2 (h j h1)
theorem impl_ok (n : Int) (l : List (S61)) (m : List Int) (hn : -128 ≤ n ∧ n ≤ 127) (hx : ∀ y ∈ l, ok61 y) (hl : l.length ≤ 1048576) (hy : ∀ y ∈ m, -32768 ≤ y ∧ y ≤ 32767) (hm : m.length ≤ 1048576) :
    ∃ r, Ev (fun k => impl_ValidNetwork.f k n l m) r ∧ (r = true ↔ NetOk n l m) := by
  have hj : Ev (fun k => impl_ValidNetwork.j0 k true n l m) false := Ev.step (f := fun _ => some false) (fun k => by simp [impl_ValidNetwork.j0]) (Ev.now _)
  unfold impl_ValidNetwork.f
  simp only [in_some]
  rw [w64 (n := n) (by omega)]
  by_cases h1 : 1 ≤ n ∧ n ≤ 6
  · by_cases h2 : 1 ≤ (l.length : Int) ∧ (l.length : Int) ≤ 80
    · by_cases h3 : 1 ≤ (m.length : Int) ∧ (m.length : Int) ≤ 8
      · obtain ⟨r, h4, h5⟩ := impl_out n l m hl (by omega) hy hm
        have h5 : (!r) = true ↔ ∀ i : Nat, i < m.length → 0 ≤ m.getD i 0 ∧ m.getD i 0 < l.length := by rw [← h5]; simp
        have hnode : ∃ r, Ev (fun k => impl_ValidNetwork.l0 k l l.length 0 n l m) r ∧ (r = true ↔ (∀ i : Nat, i < l.length → NodeOk n i (l.getD i z61)) ∧ ∀ i : Nat, i < m.length → 0 ≤ m.getD i 0 ∧ m.getD i 0 < l.length) := by
          refine ev_scanB (g := fun k i => impl_ValidNetwork.l0 k l l.length i n l m) (fun i => NodeOk n i (l.getD i z61)) h5 (fun _ => ?_) (fun i h hp s hs => ?_) (fun i h hp => ?_)
          · refine Ev.step (fun k => by rw [impl_ValidNetwork.l0]) ?_
            exact Ev.iteF (by omega) (Ev.bind h4 (Ev.now _))
          all_goals
            obtain ⟨q, h6, h7⟩ := impl_node n (l.getD i z61) hn (ok_at hx i) i (by omega)
            refine Ev.step (fun k => by rw [impl_ValidNetwork.l0]) ?_
            simp only [rdn]
            refine Ev.iteT (by omega) (Ev.iteT (by omega) (Ev.iteT (by omega) (Ev.bind h6 ?_)))
          · refine Ev.iteT (h7.2 hp) ?_
            rw [w64 (by omega)]
            exact hs
          · exact Ev.iteF (fun h => hp (h7.1 h)) (Ev.now _)
        obtain ⟨s, h6, h7⟩ := hnode
        refine ⟨s, (Ev.bindc rfl (Ev.iteT (by simpa using h1) (Ev.bindc rfl (Ev.iteT (by simpa using h2) (Ev.bindc rfl ?_))))), ?_⟩
        · refine Ev.step (fun k => by rw [impl_ValidNetwork.j0]) (Ev.iteF (by simp; omega) h6)
        · rw [h7]; exact ⟨fun h => ⟨h1, by omega, by omega, h.1, h.2⟩, fun h => ⟨h.node, h.out⟩⟩
      · refine ⟨false, (Ev.bindc rfl (Ev.iteT (by simpa using h1) (Ev.bindc rfl (Ev.iteT (by simpa using h2) (Ev.bindc rfl ?_))))), ?_⟩
        · rw [show (!decide (1 ≤ (m.length : Int) ∧ (m.length : Int) ≤ 8)) = true by rw [decide_eq_false h3]; rfl]; exact hj
        · simp only [Bool.false_eq_true, false_iff]; intro h; have := h.outs; omega
    · refine ⟨false, (Ev.bindc rfl (Ev.iteT (by simpa using h1) (Ev.bindc rfl (Ev.iteF (by simpa using h2) hj)))), ?_⟩
      simp only [Bool.false_eq_true, false_iff]; intro h; have := h.len; omega
  · refine ⟨false, (Ev.bindc rfl (Ev.iteF (by simpa using h1) hj)), ?_⟩
    simp only [Bool.false_eq_true, false_iff]; intro h; have := h.inputs; omega
theorem full_same (n : Int) (h : 1 ≤ n ∧ n ≤ 6) : ∃ v, spec_l04Full.f n = some v ∧ impl_full.f n = some v ∧ 0 ≤ v ∧ v ≤ 18446744073709551615 := by
  have hn : n = 1 ∨ n = 2 ∨ n = 3 ∨ n = 4 ∨ n = 5 ∨ n = 6 := by omega
  rcases hn with rfl | rfl | rfl | rfl | rfl | rfl
  · exact ⟨3, by decide +kernel, by decide +kernel, by omega, by omega⟩
  · exact ⟨15, by decide +kernel, by decide +kernel, by omega, by omega⟩
  · exact ⟨255, by decide +kernel, by decide +kernel, by omega, by omega⟩
  · exact ⟨65535, by decide +kernel, by decide +kernel, by omega, by omega⟩
  · exact ⟨4294967295, by decide +kernel, by decide +kernel, by omega, by omega⟩
  · exact ⟨18446744073709551615, by decide +kernel, by decide +kernel, by omega, by omega⟩
theorem input_all : ∀ n ∈ ([1, 2, 3, 4, 5, 6] : List Int), ∀ i ∈ ([0, 1, 2, 3, 4, 5] : List Int), i < n → ((spec_l04Input.f 100 n i).any (fun v => decide (0 ≤ v ∧ v ≤ 18446744073709551615)) = true ∧ spec_l04Input.f 100 n i = impl_inputTable.f 100 n i) := by decide +kernel
theorem input_same (n i : Int) (h : 1 ≤ n ∧ n ≤ 6) (hi : 0 ≤ i ∧ i < n) : ∃ v, Ev (fun k => spec_l04Input.f k n i) v ∧ Ev (fun k => impl_inputTable.f k n i) v ∧ 0 ≤ v ∧ v ≤ 18446744073709551615 := by
  have hn : n ∈ ([1, 2, 3, 4, 5, 6] : List Int) := by
    have : n = 1 ∨ n = 2 ∨ n = 3 ∨ n = 4 ∨ n = 5 ∨ n = 6 := by omega
    rcases this with rfl | rfl | rfl | rfl | rfl | rfl <;> decide
  have hj : i ∈ ([0, 1, 2, 3, 4, 5] : List Int) := by
    have : i = 0 ∨ i = 1 ∨ i = 2 ∨ i = 3 ∨ i = 4 ∨ i = 5 := by omega
    rcases this with rfl | rfl | rfl | rfl | rfl | rfl <;> decide
  obtain ⟨h1, h2⟩ := input_all n hn i hj hi.2
  cases hv : spec_l04Input.f 100 n i with
  | none => rw [hv] at h1; simp at h1
  | some v =>
    rw [hv] at h1 h2
    simp only [Option.any_some, decide_eq_true_eq] at h1
    exact ⟨v, Ev.of (k := 100) (fun k => spec_l04Input.mono n i k) hv, Ev.of (k := 100) (fun k => impl_inputTable.mono n i k) h2.symm, h1⟩
def U64 (v : Int) : Prop := 0 ≤ v ∧ v ≤ 18446744073709551615
theorem bits_u64 (o : Go.BinOp) (a b : Int) : U64 (Go.bits o .u64 a b) := by
  have h : ∀ c, U64 (IntKind.u64.wrap c) := fun c => by unfold U64; rw [IntKind.wrap_u64]; omega
  exact h _
theorem tables_same (n : Int) (l : List (S61)) (m : List Int) (hx : ∀ y ∈ l, ok61 y) (h : NetOk n l m) :
    ∃ t, Ev (fun k => spec_l04Tables.f k [(⟨n, l, m⟩ : S29)]) t ∧ Ev (fun k => impl_Network_tables.f k [(⟨n, l, m⟩ : S29)]) t ∧ t.length = l.length ∧ ∀ y ∈ t, U64 y := by
  obtain ⟨v, h1, h2, h3⟩ := full_same n h.inputs
  have hlen := h.len
  have hin := h.inputs
  unfold spec_l04Tables.f impl_Network_tables.f
  simp only [rd0]
  rw [w64 (n := n) (by omega)]
  have key := ev_pair (σ := List Int) (ρ := List Int) (fun i t => t.length = i ∧ ∀ y ∈ t, U64 y) l.length
    (fun i t k => spec_l04Tables.l0 k [(⟨n, l, m⟩ : S29)] v t i) (fun i t k => impl_Network_tables.l0 k [(⟨n, l, m⟩ : S29)] t l l.length i) (fun t => t.length = l.length ∧ ∀ y ∈ t, U64 y) ?_ ?_ [] (by simp)
  · obtain ⟨t, k1, k2, k3⟩ := key
    exact ⟨t, Ev.iteT (by simp) (Ev.bindc h1 k1), Ev.iteT (by simp) k2, k3⟩
  · intro t ht
    refine ⟨t, ?_, ?_, ht⟩
    · refine Ev.step (fun k => by rw [spec_l04Tables.l0]) ?_
      simp only [rd0]
      exact Ev.iteT (by simp) (Ev.iteF (by omega) (Ev.now _))
    · refine Ev.step (fun k => by rw [impl_Network_tables.l0]) ?_
      exact Ev.iteF (by omega) (Ev.now _)
  · intro i t hi ⟨ht, hu⟩
    have hb := ok_at hx i
    have ho := h.node i hi
    obtain ⟨⟨x0, x1, x2⟩, hX⟩ : ∃ x, x = l.getD i z61 := ⟨_, rfl⟩
    have app : ∀ v, U64 v → (t ++ [v]).length = i + 1 ∧ ∀ y ∈ t ++ [v], U64 y := fun v hv => ⟨by simp [ht], fun y hy => by rcases List.mem_append.1 hy with hy | hy; exact hu y hy; simp at hy; exact hy ▸ hv⟩
    have wi : wrap64 ((i : Int) + 1) = ((i + 1 : Nat) : Int) := w64 (by omega)
    rw [← hX] at hb ho
    obtain ⟨b0, b1, b2⟩ := hb
    dsimp only at b0 b1 b2
    have s1 : ∀ r, Ev (fun k => spec_l04Tables.l0 k [(⟨n, l, m⟩ : S29)] v t i) r ↔ Ev (fun k => spec_l04Tables.l0 (k + 1) [(⟨n, l, m⟩ : S29)] v t i) r := fun r => ⟨fun ⟨K, h⟩ => ⟨K, fun k hk => h _ (by omega)⟩, fun h => Ev.step (fun _ => rfl) h⟩
    have s2 : ∀ r, Ev (fun k => impl_Network_tables.l0 k [(⟨n, l, m⟩ : S29)] t l l.length i) r ↔ Ev (fun k => impl_Network_tables.l0 (k + 1) [(⟨n, l, m⟩ : S29)] t l l.length i) r := fun r => ⟨fun ⟨K, h⟩ => ⟨K, fun k hk => h _ (by omega)⟩, fun h => Ev.step (fun _ => rfl) h⟩
    simp only [spec_l04Tables.l0, impl_Network_tables.l0, rd0, rdn, ← hX, wi] at s1 s2
    have c1 : (i : Int) < (l.length : Int) := by omega
    have c2 : 0 ≤ (i : Int) := by omega
    have c3 : 0 < (([(⟨n, l, m⟩ : S29)].length : Nat) : Int) := by simp
    have c4 : t.length < 17592186044416 := by omega
    simp only [c1, c2, c3, c4, if_true] at s1 s2
    have e1 : wrap64 n = n := w64 (by omega)
    have e2 : wrap64 x1 = x1 := w64 (by omega)
    simp only [e1, e2] at s1 s2
    rcases ho with ⟨rfl, a1, a2, rfl⟩ | ⟨rfl, rfl, rfl⟩ | ⟨a0, a1, a2, a3, a4⟩
    · dsimp only at a1 a2
      obtain ⟨w, k1, k2, k3⟩ := input_same n x1 h.inputs ⟨a1, a2⟩
      refine .inl ⟨t ++ [w], app w k3, fun r => ⟨fun h => (s1 r).2 ?_, fun h => (s2 r).2 ?_⟩⟩
      · exact Ev.iteT rfl (Ev.bind k1 h)
      · exact Ev.iteT rfl (Ev.bind k2 h)
    · refine .inl ⟨t ++ [v], app v h3, fun r => ⟨fun h => (s1 r).2 ?_, fun h => (s2 r).2 ?_⟩⟩
      · exact Ev.iteF (by simp) (Ev.iteF (by simp) (Ev.iteF (by simp) h))
      · exact Ev.iteF (by simp) (Ev.iteT rfl (Ev.bindc h2 h))
    · dsimp only at a0 a1 a2 a3 a4
      rcases a0 with rfl | rfl
      · refine .inl ⟨t ++ [Go.bits .or .u64 (rd t x1) (rd t x2)], app _ (bits_u64 _ _ _), fun r => ⟨fun h => (s1 r).2 ?_, fun h => (s2 r).2 ?_⟩⟩
        · exact Ev.iteF (by simp) (Ev.iteT rfl (Ev.iteT a1 (Ev.iteT (by omega) (Ev.iteT a3 (Ev.iteT (by omega) h)))))
        · exact Ev.iteF (by simp) (Ev.iteF (by simp) (Ev.iteT rfl (Ev.iteT a1 (Ev.iteT (by omega) (Ev.iteT a3 (Ev.iteT (by omega) h))))))
      · refine .inl ⟨t ++ [Go.bits .andNot .u64 (rd t x1) (rd t x2)], app _ (bits_u64 _ _ _), fun r => ⟨fun h => (s1 r).2 ?_, fun h => (s2 r).2 ?_⟩⟩
        · exact Ev.iteF (by simp) (Ev.iteF (by simp) (Ev.iteT rfl (Ev.iteT a1 (Ev.iteT (by omega) (Ev.iteT a3 (Ev.iteT (by omega) h))))))
        · exact Ev.iteF (by simp) (Ev.iteF (by simp) (Ev.iteF (by simp) (Ev.iteT a1 (Ev.iteT (by omega) (Ev.iteT a3 (Ev.iteT (by omega) h))))))
/-- A loop that appends what is made of each element; told from its end. -/
theorem ev_app {α β ρ : Type} (f : α → β) (l : List α) {g : Nat → Int → List β → Option ρ} {r : ρ} (hend : Ev (fun k => g k (l.length : Int) (l.map f)) r)
    (hs : ∀ (i : Nat) (h : i < l.length) (x : List β), x.length = i → Ev (fun k => g k ((i + 1 : Nat) : Int) (x ++ [f l[i]])) r → Ev (fun k => g k (i : Int) x) r) : Ev (fun k => g k 0 []) r := by
  have h := ev_loop2 (g := fun k (s : Int × List β) => g k s.1 s.2) (fun i => ((i : Int), (l.take i).map f)) l.length (r := r) (by simpa using hend) (fun i hi ih => by
    dsimp only at ih ⊢
    refine hs i hi _ (by simp; omega) ?_
    rw [List.take_succ_eq_append_getElem hi, List.map_append] at ih
    exact ih)
  simpa using h
/-- A node whose A and B stand at other places. -/
def ren (x5 : List Int) (x : S61) : S61 := if x.f0 ≥ 2 then ⟨x.f0, rd x5 x.f1, rd x5 x.f2⟩ else x
theorem renamed_ok (n : Int) (i : Nat) (x : S61) (x5 : List Int) (h : NodeOk n i x) (hl : x5.length = i) : impl_Node_renamed.f x.f0 x.f1 x.f2 x5 = some ((ren x5 x).f0, (ren x5 x).f1, (ren x5 x).f2) := by
  obtain ⟨x0, x1, x2⟩ := x
  unfold impl_Node_renamed.f impl_Node_inner.f ren
  rcases h with ⟨a, b, c, d⟩ | ⟨a, b, c⟩ | ⟨a, b1, b2, b3, b4⟩
  · dsimp only at a; subst a; simp
  · dsimp only at a; subst a; simp
  · dsimp only at a b1 b2 b3 b4
    have c1 : x1 < (x5.length : Int) := by omega
    have c2 : x2 < (x5.length : Int) := by omega
    rcases a with rfl | rfl <;> simp [b1, b3, c1, c2]
theorem rd_in {x5 : List Int} {N : Int} (h : ∀ y ∈ x5, 0 ≤ y ∧ y < N) (a : Int) (h0 : 0 ≤ a) (h1 : a < (x5.length : Int)) : 0 ≤ rd x5 a ∧ rd x5 a < N := by
  obtain ⟨j, rfl⟩ := Int.eq_ofNat_of_zero_le h0
  exact getD_mem (p := fun y => 0 ≤ y ∧ y < N) h 0 j (by omega)
theorem ren_ok (n : Int) (i : Nat) (x : S61) (x5 : List Int) (N : Nat) (h : NodeOk n i x) (hl : x5.length = i) (hv : ∀ y ∈ x5, 0 ≤ y ∧ y < (N : Int)) : NodeOk n N (ren x5 x) := by
  obtain ⟨x0, x1, x2⟩ := x
  unfold ren
  rcases h with ⟨a, b, c, d⟩ | ⟨a, b, c⟩ | ⟨a, b1, b2, b3, b4⟩
  · dsimp only at a; subst a; exact .inl ⟨rfl, b, c, d⟩
  · dsimp only at a; subst a; exact .inr (.inl ⟨rfl, b, c⟩)
  · dsimp only at a b1 b2 b3 b4
    have h1 := rd_in hv x1 b1 (by omega)
    have h2 := rd_in hv x2 b3 (by omega)
    rw [if_pos (by dsimp only; omega)]
    exact .inr (.inr ⟨a, h1.1, h1.2, h2.1, h2.2⟩)
/-- The outputs at their places. -/
def outs (x5 m : List Int) : List Int := m.map fun y => rd x5 y
theorem outs_in {x5 m : List Int} {N : Int} (h : ∀ y ∈ x5, 0 ≤ y ∧ y < N) (ho : ∀ i : Nat, i < m.length → 0 ≤ m.getD i 0 ∧ m.getD i 0 < (x5.length : Int)) (i : Nat) (hi : i < (outs x5 m).length) : 0 ≤ (outs x5 m).getD i 0 ∧ (outs x5 m).getD i 0 < N := by
  have hi' : i < m.length := by simpa [outs] using hi
  have e : (outs x5 m).getD i 0 = rd x5 m[i] := by
    unfold outs
    rw [getD_at _ _ _ (by simpa using hi')]
    simp
  have := ho i hi'
  rw [getD_at _ _ _ hi'] at this
  rw [e]
  exact rd_in h _ this.1 this.2
theorem impl_outs (x5 m : List Int) (ho : ∀ i : Nat, i < m.length → 0 ≤ m.getD i 0 ∧ m.getD i 0 < (x5.length : Int)) (hm : m.length ≤ 8) : Ev (fun k => impl_renamedAll.f k m x5) (outs x5 m) := by
  unfold impl_renamedAll.f
  refine ev_app (fun y => rd x5 y) m (g := fun k i x => impl_renamedAll.l0 k x5 x m m.length i) ?_ fun i hi x hx ih => ?_
  · refine Ev.step (fun k => by rw [impl_renamedAll.l0]) ?_
    exact Ev.iteF (by omega) (Ev.now _)
  · have h := ho i hi
    have e : m.getD i 0 = m[i] := getD_at _ _ _ hi
    refine Ev.step (fun k => by rw [impl_renamedAll.l0]) ?_
    simp only [rdi]
    rw [w64 (n := (i : Int) + 1) (by omega)]
    rw [e] at h ⊢
    exact Ev.iteT (by omega) (Ev.iteT (by omega) (Ev.iteT (by omega) (Ev.iteT h.1 (Ev.iteT h.2 (Ev.iteT (by omega) ih)))))
theorem find_spec (x0 : List S29) (x4 x5 x6 : List Int) (n' : Int) (l' : List S61) (i : Nat) (hi : i < x4.length) (hx : x6.length ≤ 80) (j : Nat) (hj : j ≤ x6.length) (hne : ∀ q, q < j → x6.getD q 0 ≠ x4.getD i 0) (hat : j < x6.length → x6.getD j 0 = x4.getD i 0) :
    ∀ r, Ev (fun k => spec_l04Merge.j2 k x0 x4 x5 x6 i j n' l') r → Ev (fun k => spec_l04Merge.l1 k x0 x4 x5 x6 i 0 n' l') r := by
  intro r h
  refine ev_loop2 (g := fun k q => spec_l04Merge.l1 k x0 x4 x5 x6 i q n' l') (fun q => (q : Int)) j ?_ fun q hq ih => ?_
  · refine Ev.step (fun k => by rw [spec_l04Merge.l1]) ?_
    by_cases hj' : j < x6.length
    · simp only [rdi]
      exact Ev.iteT (by omega) (Ev.iteT (by omega) (Ev.iteT (by omega) (Ev.iteT (by omega) (Ev.iteT (hat hj') h))))
    · exact Ev.iteF (by omega) h
  · refine Ev.step (fun k => by rw [spec_l04Merge.l1]) ?_
    simp only [rdi]
    rw [w64 (n := (q : Int) + 1) (by omega)]
    exact Ev.iteT (by omega) (Ev.iteT (by omega) (Ev.iteT (by omega) (Ev.iteT (by omega) (Ev.iteF (hne q hq) ih))))
theorem find_impl (x6 : List Int) (t : Int) (hx : x6.length ≤ 80) (j : Nat) (hj : j ≤ x6.length) (hne : ∀ q, q < j → x6.getD q 0 ≠ t) (hat : j < x6.length → x6.getD j 0 = t) :
    Ev (fun k => slices_Index_uint64_uint64.f k x6 t) (if j < x6.length then (j : Int) else -1) := by
  unfold slices_Index_uint64_uint64.f
  refine ev_loop2 (g := fun k q => slices_Index_uint64_uint64.l0 k x6 t x6.length q) (fun q => (q : Int)) j ?_ fun q hq ih => ?_
  · refine Ev.step (fun k => by rw [slices_Index_uint64_uint64.l0]) ?_
    by_cases hj' : j < x6.length
    · rw [if_pos hj']
      simp only [rdi]
      exact Ev.iteT (by omega) (Ev.iteT (by omega) (Ev.iteT (by omega) (Ev.iteT (hat hj').symm (Ev.now _))))
    · rw [if_neg hj']
      exact Ev.iteF (by omega) (Ev.now _)
  · refine Ev.step (fun k => by rw [slices_Index_uint64_uint64.l0]) ?_
    simp only [rdi]
    rw [w64 (n := (q : Int) + 1) (by omega)]
    exact Ev.iteT (by omega) (Ev.iteT (by omega) (Ev.iteT (by omega) (Ev.iteF (fun e => hne q hq e.symm) ih)))
theorem first_eq (x6 : List Int) (t : Int) : ∃ j, j ≤ x6.length ∧ (∀ q, q < j → x6.getD q 0 ≠ t) ∧ (j < x6.length → x6.getD j 0 = t) := by
  rcases first_or_all (fun q => x6.getD q 0 ≠ t) x6.length with h | ⟨j, h1, h2, h3⟩
  · exact ⟨x6.length, Nat.le_refl _, h, fun h => by omega⟩
  · exact ⟨j, by omega, h3, fun _ => Decidable.not_not.1 h2⟩
theorem merge_same (n : Int) (l : List S61) (m : List Int) (hx : ∀ y ∈ l, ok61 y) (h : NetOk n l m) :
    ∃ r : Int × List S61 × List Int × List Int, Ev (fun k => spec_l04Merge.f k [(⟨n, l, m⟩ : S29)]) r ∧ Ev (fun k => impl_Network_merged.f k [(⟨n, l, m⟩ : S29)]) r ∧
      r.1 = n ∧ NetOk n r.2.1 r.2.2.1 ∧ r.2.2.2.length = l.length ∧ ∀ y ∈ r.2.2.2, 0 ≤ y ∧ y < (80 : Int) := by
  obtain ⟨t, ht1, ht2, htl, htu⟩ := tables_same n l m hx h
  have hlen := h.len
  have houts := h.outs
  have key := ev_pair (σ := List Int × List Int × List S61) (ρ := Int × List S61 × List Int × List Int)
    (fun i s => s.1.length = i ∧ s.2.1.length = s.2.2.length ∧ s.2.2.length ≤ i ∧ (∀ y ∈ s.1, 0 ≤ y ∧ y < (s.2.2.length : Int)) ∧ ∀ j : Nat, j < s.2.2.length → NodeOk n j (s.2.2.getD j z61)) l.length
    (fun i s k => spec_l04Merge.l0 k [(⟨n, l, m⟩ : S29)] t s.1 s.2.1 i n s.2.2) (fun i s k => impl_Network_merged.l0 k [(⟨n, l, m⟩ : S29)] s.1 s.2.1 t t.length i n s.2.2)
    (fun r => r.1 = n ∧ NetOk n r.2.1 r.2.2.1 ∧ r.2.2.2.length = l.length ∧ ∀ y ∈ r.2.2.2, 0 ≤ y ∧ y < (80 : Int)) ?_ ?_ ([], [], []) ⟨rfl, rfl, Nat.le_refl _, by simp, by simp⟩
  · obtain ⟨r, k1, k2, k3⟩ := key
    refine ⟨r, ?_, ?_, k3⟩
    · unfold spec_l04Merge.f
      simp only [rd0]
      exact Ev.bind ht1 (Ev.iteT (by simp) k1)
    · unfold impl_Network_merged.f
      simp only [rd0]
      exact Ev.iteT (by simp) (Ev.bind ht2 k2)
  · rintro ⟨x5, x6, ns⟩ ⟨h1, h2, h3, h4, h5⟩
    dsimp only at h1 h2 h3 h4 h5 ⊢
    have ho : ∀ i : Nat, i < m.length → 0 ≤ m.getD i 0 ∧ m.getD i 0 < (x5.length : Int) := fun i hi => by have := h.out i hi; omega
    refine ⟨(n, ns, outs x5 m, x5), ?_, ?_, rfl, ⟨h.inputs, ⟨?_, by dsimp only; omega⟩, by simpa [outs] using houts, h5, fun i hi => outs_in h4 ho i hi⟩, h1, fun y hy => ?_⟩
    · refine Ev.step (fun k => by rw [spec_l04Merge.l0]) ?_
      simp only [rd0]
      refine Ev.iteT (by simp) (Ev.iteF (by omega) ?_)
      refine ev_app (fun y => rd x5 y) m (g := fun k i x => spec_l04Merge.l2 k [(⟨n, l, m⟩ : S29)] x5 i n ns x) ?_ fun i hi x hx ih => ?_
      · refine Ev.step (fun k => by rw [spec_l04Merge.l2]) ?_
        simp only [rd0]
        exact Ev.iteT (by simp) (Ev.iteF (by omega) (Ev.now _))
      · have hq := ho i hi
        have e : m.getD i 0 = m[i] := getD_at _ _ _ hi
        refine Ev.step (fun k => by rw [spec_l04Merge.l2]) ?_
        simp only [rd0, rdi]
        rw [w64 (n := (i : Int) + 1) (by omega)]
        rw [e] at hq ⊢
        have hb := rd_in h4 _ hq.1 hq.2
        rw [w16 (n := rd x5 m[i]) (by omega)]
        exact Ev.iteT (by simp) (Ev.iteT (by omega) (Ev.iteT (by omega) (Ev.iteT hq.1 (Ev.iteT hq.2 (Ev.iteT (by omega) ih)))))
    · refine Ev.step (fun k => by rw [impl_Network_merged.l0]) ?_
      simp only [rd0]
      exact Ev.iteF (by omega) (Ev.iteT (by simp) (Ev.bind (impl_outs x5 m ho houts.2) (Ev.now _)))
    · have := getD_mem (p := fun y => 0 ≤ y ∧ y < (ns.length : Int)) h4 0 0 (by omega)
      dsimp only at this ⊢
      omega
    · have := h4 y hy; omega
  · rintro i ⟨x5, x6, ns⟩ hi ⟨h1, h2, h3, h4, h5⟩
    dsimp only at h1 h2 h3 h4 h5 ⊢
    have wi : wrap64 ((i : Int) + 1) = ((i + 1 : Nat) : Int) := w64 (by omega)
    obtain ⟨j, j1, j2, j3⟩ := first_eq x6 (t.getD i 0)
    have hs := find_spec [(⟨n, l, m⟩ : S29)] t x5 x6 n ns i (by omega) (by omega) j j1 j2 j3
    have hi' := find_impl x6 (t.getD i 0) (by omega) j j1 j2 j3
    have ho := h.node i hi
    obtain ⟨x, hX⟩ : ∃ x, x = l.getD i z61 := ⟨_, rfl⟩
    rw [← hX] at ho
    by_cases hj : j < x6.length
    · rw [if_pos hj] at hi'
      refine .inl ⟨(x5 ++ [(j : Int)], x6, ns), ⟨by simp [h1], h2, by dsimp only; omega, ?_, h5⟩, fun r => ⟨fun hh => ?_, fun hh => ?_⟩⟩
      · intro y hy
        dsimp only at hy ⊢
        rcases List.mem_append.1 hy with hy | hy
        · exact h4 y hy
        · simp at hy; omega
      · refine Ev.step (fun k => by rw [spec_l04Merge.l0]) ?_
        simp only [rd0]
        refine Ev.iteT (by simp) (Ev.iteT (by omega) (hs r ?_))
        refine Ev.step (fun k => by rw [spec_l04Merge.j2]) ?_
        rw [wi]
        exact Ev.iteF (by omega) (Ev.iteT (by omega) hh)
      · refine Ev.step (fun k => by rw [impl_Network_merged.l0]) ?_
        simp only [rd0, rdi, wi]
        refine Ev.iteT (by omega) (Ev.iteT (by omega) (Ev.iteT (by omega) (Ev.bind hi' (Ev.iteF (by omega) (Ev.iteT (by omega) ?_)))))
        rw [w16 (n := (j : Int)) (by omega)]
        exact hh
    · rw [if_neg hj] at hi'
      obtain rfl : j = x6.length := by omega
      have hren : ren x5 x = if x.f0 ≥ 2 then ⟨x.f0, rd x5 x.f1, rd x5 x.f2⟩ else x := rfl
      have hrok := ren_ok n i x x5 ns.length ho h1 h4
      refine .inl ⟨(x5 ++ [(x6.length : Int)], x6 ++ [t.getD i 0], ns ++ [ren x5 x]), ⟨by simp [h1], by simp [h2], by simp; omega, ?_, ?_⟩, fun r => ⟨fun hh => ?_, fun hh => ?_⟩⟩
      · intro y hy
        dsimp only at hy ⊢
        rcases List.mem_append.1 hy with hy | hy
        · have := h4 y hy; simp; omega
        · simp at hy; simp; omega
      · intro q hq
        dsimp only at hq ⊢
        by_cases hq' : q < ns.length
        · rw [show (ns ++ [ren x5 x]).getD q z61 = ns.getD q z61 by rw [List.getD_eq_getElem?_getD, List.getD_eq_getElem?_getD, List.getElem?_append_left hq']]
          exact h5 q hq'
        · obtain rfl : q = ns.length := by simp at hq; omega
          rw [show (ns ++ [ren x5 x]).getD ns.length z61 = ren x5 x by simp]
          exact hrok
      · refine Ev.step (fun k => by rw [spec_l04Merge.l0]) ?_
        simp only [rd0]
        refine Ev.iteT (by simp) (Ev.iteT (by omega) (hs r ?_))
        refine Ev.step (fun k => by rw [spec_l04Merge.j2]) ?_
        simp only [rd0, rdn, rdi, ← hX]
        rw [wi]
        refine Ev.iteT (by simp) (Ev.iteT (by simp) (Ev.iteT (by omega) (Ev.iteT (by omega) ?_)))
        by_cases hk : x.f0 ≥ 2
        · rw [hren, if_pos hk] at hh
          have ha : 0 ≤ x.f1 ∧ x.f1 < (x5.length : Int) ∧ 0 ≤ x.f2 ∧ x.f2 < (x5.length : Int) := by rcases ho with ho | ho | ho <;> omega
          have hb1 := rd_in h4 _ ha.1 ha.2.1
          have hb2 := rd_in h4 _ ha.2.2.1 ha.2.2.2
          rw [w16 (n := rd x5 x.f1) (by omega), w16 (n := rd x5 x.f2) (by omega)]
          exact Ev.iteT hk (Ev.iteT ha.1 (Ev.iteT ha.2.1 (Ev.iteT ha.2.2.1 (Ev.iteT ha.2.2.2 (Ev.iteT (by omega) (Ev.iteT (by omega) (Ev.iteT (by omega) (Ev.iteT (by omega) hh))))))))
        · rw [hren, if_neg hk] at hh
          exact Ev.iteF hk (Ev.iteT (by omega) (Ev.iteT (by omega) (Ev.iteT (by omega) (Ev.iteT (by omega) hh))))
      · refine Ev.step (fun k => by rw [impl_Network_merged.l0]) ?_
        simp only [rd0, rdi, rdn, wi, ← hX]
        refine Ev.iteT (by omega) (Ev.iteT (by omega) (Ev.iteT (by omega) (Ev.bind hi' (Ev.iteT (by omega) (Ev.iteT (by omega) (Ev.iteT (by simp) (Ev.iteT (by omega) (Ev.bindc (renamed_ok n i x x5 ho h1) (Ev.iteT (by omega) (Ev.iteT (by omega) ?_))))))))))
        rw [w16 (n := (x6.length : Int)) (by omega)]
        exact hh
theorem node_wide {n : Int} {i N : Nat} {x : S61} (h : NodeOk n i x) (hi : i ≤ N) : NodeOk n N x := by
  rcases h with h | h | ⟨a, b1, b2, b3, b4⟩
  · exact .inl h
  · exact .inr (.inl h)
  · exact .inr (.inr ⟨a, b1, by omega, b3, by omega⟩)
theorem inner_b (a b c : Int) : impl_Node_inner.f a b c = some (decide (a = 2 ∨ a = 3)) := by
  unfold impl_Node_inner.f
  by_cases h : a = 2
  · simp [h]
  · by_cases h3 : a = 3
    · simp [h3]
    · simp [h, h3]
theorem okNs_of (n : Int) (l : List S61) (m : List Int) (h : NetOk n l m) : okNs l = true := by
  unfold okNs
  rw [List.all_eq_true]
  intro y hy
  obtain ⟨i, hi, rfl⟩ := List.getElem_of_mem hy
  have ho := h.node i hi
  rw [getD_at _ _ _ hi] at ho
  rcases ho with ⟨a, _⟩ | ⟨a, _⟩ | ⟨_, b1, b2, b3, b4⟩
  · simp [a]
  · simp [a]
  · have c2 : l[i].f1 < (l.length : Int) := by omega
    have c4 : l[i].f2 < (l.length : Int) := by omega
    simp [b1, b3, c2, c4]
theorem ren_set (n : Int) (i : Nat) (x : S61) (x5 : List Int) (v : Int) (h : NodeOk n i x) : ren (x5.set i v) x = ren x5 x := by
  unfold ren
  by_cases hk : x.f0 ≥ 2
  · have ha : 0 ≤ x.f1 ∧ x.f1 < (i : Int) ∧ 0 ≤ x.f2 ∧ x.f2 < (i : Int) := by rcases h with h | h | h <;> omega
    have e : ∀ a : Int, 0 ≤ a → a < (i : Int) → rd (x5.set i v) a = rd x5 a := by
      intro a h0 h1
      obtain ⟨j, rfl⟩ := Int.eq_ofNat_of_zero_le h0
      rw [rdi, rdi, List.getD_eq_getElem?_getD, List.getD_eq_getElem?_getD, List.getElem?_set_ne (by omega)]
    rw [if_pos hk, if_pos hk, e _ ha.1 ha.2.1, e _ ha.2.2.1 ha.2.2.2]
  · rw [if_neg hk, if_neg hk]
theorem trim3 (n : Int) (l : List S61) (m : List Int) (h : NetOk n l m) (xs : List Bool) (hxs : xs.length = l.length) :
    ∃ r : Int × List S61 × List Int, Ev (fun k => spec_l04Trim.l2 k [(⟨n, l, m⟩ : S29)] xs (List.replicate l.length 0) 0 n []) r ∧ Ev (fun k => impl_Network_trimmed.l2 k [(⟨n, l, m⟩ : S29)] (List.replicate l.length 0) l l.length 0 xs n []) r ∧
      (r.1 = n ∧ r.2.1.length ≤ l.length ∧ r.2.2.length = m.length) := by
  have hlen := h.len
  have houts := h.outs
  refine ev_pair (σ := List Int × List S61) (ρ := Int × List S61 × List Int)
    (fun i s => s.1.length = l.length ∧ s.2.length ≤ i) l.length
    (fun i s k => spec_l04Trim.l2 k [(⟨n, l, m⟩ : S29)] xs s.1 i n s.2) (fun i s k => impl_Network_trimmed.l2 k [(⟨n, l, m⟩ : S29)] s.1 l l.length i xs n s.2)
    (fun r => r.1 = n ∧ r.2.1.length ≤ l.length ∧ r.2.2.length = m.length) ?_ ?_ (List.replicate l.length 0, []) ⟨by simp, by simp⟩
  · rintro ⟨x5, ns⟩ ⟨h1, h2⟩
    dsimp only at h1 h2 ⊢
    have ho : ∀ i : Nat, i < m.length → 0 ≤ m.getD i 0 ∧ m.getD i 0 < (x5.length : Int) := fun i hi => by have := h.out i hi; omega
    refine ⟨(n, ns, outs x5 m), ?_, ?_, rfl, h2, by simp [outs]⟩
    · refine Ev.step (fun k => by rw [spec_l04Trim.l2]) ?_
      simp only [rd0]
      refine Ev.iteT (by simp) (Ev.iteF (by omega) ?_)
      refine ev_app (fun y => rd x5 y) m (g := fun k i x => spec_l04Trim.l3 k [(⟨n, l, m⟩ : S29)] x5 i n ns x) ?_ fun i hi x hx ih => ?_
      · refine Ev.step (fun k => by rw [spec_l04Trim.l3]) ?_
        simp only [rd0]
        exact Ev.iteT (by simp) (Ev.iteF (by omega) (Ev.now _))
      · have hq := ho i hi
        have e : m.getD i 0 = m[i] := getD_at _ _ _ hi
        refine Ev.step (fun k => by rw [spec_l04Trim.l3]) ?_
        simp only [rd0, rdi]
        rw [w64 (n := (i : Int) + 1) (by omega)]
        rw [e] at hq ⊢
        exact Ev.iteT (by simp) (Ev.iteT (by omega) (Ev.iteT (by omega) (Ev.iteT hq.1 (Ev.iteT hq.2 (Ev.iteT (by omega) ih)))))
    · refine Ev.step (fun k => by rw [impl_Network_trimmed.l2]) ?_
      simp only [rd0]
      exact Ev.iteF (by omega) (Ev.iteT (by simp) (Ev.bind (impl_outs x5 m ho houts.2) (Ev.now _)))
  · rintro i ⟨x5, ns⟩ hi ⟨h1, h2⟩
    dsimp only at h1 h2 ⊢
    have wi : wrap64 ((i : Int) + 1) = ((i + 1 : Nat) : Int) := w64 (by omega)
    have ho := h.node i hi
    obtain ⟨x, hX⟩ : ∃ x, x = l.getD i z61 := ⟨_, rfl⟩
    rw [← hX] at ho
    by_cases hu : rdOf false xs (i : Int) = true
    · have hren : ren x5 x = if x.f0 ≥ 2 then ⟨x.f0, rd x5 x.f1, rd x5 x.f2⟩ else x := rfl
      have hset := ren_set n i x x5 (IntKind.i16.wrap (ns.length : Int)) ho
      have how := node_wide ho (N := l.length) (by omega)
      refine .inl ⟨(x5.set i (IntKind.i16.wrap (ns.length : Int)), ns ++ [ren x5 x]), ⟨by simp [h1], by simp; omega⟩, fun r => ⟨fun hh => ?_, fun hh => ?_⟩⟩
      · refine Ev.step (fun k => by rw [spec_l04Trim.l2]) ?_
        simp only [rd0, rdn, wi, ← hX, Int.toNat_natCast]
        refine Ev.iteT (by simp) (Ev.iteT (by omega) (Ev.iteT (by omega) (Ev.iteT (by omega) (Ev.iteT hu ?_))))
        by_cases hk : x.f0 ≥ 2
        · rw [hren, if_pos hk] at hh
          have ha : 0 ≤ x.f1 ∧ x.f1 < (x5.length : Int) ∧ 0 ≤ x.f2 ∧ x.f2 < (x5.length : Int) := by rcases how with ho | ho | ho <;> omega
          exact Ev.iteT hk (Ev.iteT ha.1 (Ev.iteT ha.2.1 (Ev.iteT ha.2.2.1 (Ev.iteT ha.2.2.2 (Ev.iteT (by omega) (Ev.iteT (by omega) hh))))))
        · rw [hren, if_neg hk] at hh
          exact Ev.iteF hk (Ev.iteT (by omega) (Ev.iteT (by omega) hh))
      · refine Ev.step (fun k => by rw [impl_Network_trimmed.l2]) ?_
        simp only [rd0, rdn, wi, ← hX, Int.toNat_natCast]
        refine Ev.iteT (by omega) (Ev.iteT (by omega) (Ev.iteT (by omega) (Ev.iteT (by omega) (Ev.iteT hu (Ev.iteT (by omega) (Ev.bindc rfl (Ev.bindc (renamed_ok n l.length x _ how (by simp [h1])) (Ev.iteT (by omega) ?_))))))))
        rw [hset]
        exact hh
    · refine .inl ⟨(x5, ns), ⟨h1, by dsimp only; omega⟩, fun r => ⟨fun hh => ?_, fun hh => ?_⟩⟩
      · refine Ev.step (fun k => by rw [spec_l04Trim.l2]) ?_
        simp only [rd0, rdn, wi, ← hX]
        exact Ev.iteT (by simp) (Ev.iteT (by omega) (Ev.iteT (by omega) (Ev.iteT (by omega) (Ev.iteF hu hh))))
      · refine Ev.step (fun k => by rw [impl_Network_trimmed.l2]) ?_
        simp only [rd0, rdn, wi, ← hX]
        exact Ev.iteT (by omega) (Ev.iteT (by omega) (Ev.iteT (by omega) (Ev.iteT (by omega) (Ev.iteF hu hh))))
theorem trim2 (n : Int) (l : List S61) (m : List Int) (h : NetOk n l m) (xs : List Bool) (hxs : xs.length = l.length) :
    ∃ r : Int × List S61 × List Int, Ev (fun k => spec_l04Trim.l1 k [(⟨n, l, m⟩ : S29)] xs ((l.length : Int) - 1)) r ∧ Ev (fun k => impl_Network_trimmed.l1 k [(⟨n, l, m⟩ : S29)] l ((l.length : Int) - 1) xs) r ∧
      (r.1 = n ∧ r.2.1.length ≤ l.length ∧ r.2.2.length = m.length) := by
  have hlen := h.len
  have key := ev_pair (σ := List Bool) (ρ := Int × List S61 × List Int)
    (fun _ s => s.length = l.length) l.length
    (fun i s k => spec_l04Trim.l1 k [(⟨n, l, m⟩ : S29)] s ((l.length : Int) - 1 - (i : Int))) (fun i s k => impl_Network_trimmed.l1 k [(⟨n, l, m⟩ : S29)] l ((l.length : Int) - 1 - (i : Int)) s)
    (fun r => r.1 = n ∧ r.2.1.length ≤ l.length ∧ r.2.2.length = m.length) ?_ ?_ xs hxs
  · simpa using key
  · intro xs hxs
    obtain ⟨r, h1, h2, h3⟩ := trim3 n l m h xs hxs
    refine ⟨r, ?_, ?_, h3⟩
    · refine Ev.step (fun k => by rw [spec_l04Trim.l1]) ?_
      simp only [rd0, Int.toNat_natCast]
      exact Ev.iteF (by omega) (Ev.iteT (by simp) (Ev.iteT (by omega) (Ev.iteT (by omega) h1)))
    · refine Ev.step (fun k => by rw [impl_Network_trimmed.l1]) ?_
      simp only [rd0, Int.toNat_natCast]
      exact Ev.iteF (by omega) (Ev.iteT (by simp) (Ev.iteT (by omega) (Ev.iteT (by omega) h2)))
  · intro d xs hd hxs
    obtain ⟨j, hj⟩ : ∃ j : Nat, j = l.length - 1 - d := ⟨_, rfl⟩
    have ej : (l.length : Int) - 1 - (d : Int) = (j : Int) := by omega
    have wj : wrap64 ((j : Int) - 1) = (l.length : Int) - 1 - ((d + 1 : Nat) : Int) := by rw [w64 (by omega)]; omega
    have hjl : j < l.length := by omega
    have ho := h.node j hjl
    obtain ⟨x, hX⟩ : ∃ x, x = l.getD j z61 := ⟨_, rfl⟩
    rw [← hX] at ho
    rw [ej]
    by_cases hu : rdOf false xs (j : Int) = true
    · by_cases hk : x.f0 ≥ 2
      · have ha : 0 ≤ x.f1 ∧ x.f1 < (xs.length : Int) ∧ 0 ≤ x.f2 ∧ x.f2 < (xs.length : Int) := by rcases ho with ho | ho | ho <;> omega
        have h23 : x.f0 = 2 ∨ x.f0 = 3 := by rcases ho with ho | ho | ho <;> omega
        refine .inl ⟨(xs.set x.f1.toNat true).set x.f2.toNat true, by simpa using hxs, fun r => ⟨fun hh => ?_, fun hh => ?_⟩⟩
        · refine Ev.step (fun k => by rw [spec_l04Trim.l1]) ?_
          simp only [rd0, rdn, wj, ← hX]
          exact Ev.iteT (by omega) (Ev.iteT (by omega) (Ev.iteT (by omega) (Ev.iteT hu (Ev.iteT (by simp) (Ev.iteT (by omega) (Ev.iteT hk (Ev.iteT ha.1 (Ev.iteT ha.2.1 (Ev.iteT ha.2.2.1 (Ev.iteT ha.2.2.2 hh))))))))))
        · refine Ev.step (fun k => by rw [impl_Network_trimmed.l1]) ?_
          simp only [rdn, wj, ← hX]
          exact Ev.iteT (by omega) (Ev.iteT (by omega) (Ev.iteT (by omega) (Ev.iteT (by omega) (Ev.iteT hu (Ev.bindc (inner_b _ _ _) (Ev.iteT (decide_eq_true h23) (Ev.iteT ha.1 (Ev.iteT ha.2.1 (Ev.iteT ha.2.2.1 (Ev.iteT ha.2.2.2 hh))))))))))
      · have h23 : ¬ (x.f0 = 2 ∨ x.f0 = 3) := by omega
        refine .inl ⟨xs, hxs, fun r => ⟨fun hh => ?_, fun hh => ?_⟩⟩
        · refine Ev.step (fun k => by rw [spec_l04Trim.l1]) ?_
          simp only [rd0, rdn, wj, ← hX]
          exact Ev.iteT (by omega) (Ev.iteT (by omega) (Ev.iteT (by omega) (Ev.iteT hu (Ev.iteT (by simp) (Ev.iteT (by omega) (Ev.iteF hk hh))))))
        · refine Ev.step (fun k => by rw [impl_Network_trimmed.l1]) ?_
          simp only [rdn, wj, ← hX]
          exact Ev.iteT (by omega) (Ev.iteT (by omega) (Ev.iteT (by omega) (Ev.iteT (by omega) (Ev.iteT hu (Ev.bindc (inner_b _ _ _) (Ev.iteF (by simpa using h23) hh))))))
    · refine .inl ⟨xs, hxs, fun r => ⟨fun hh => ?_, fun hh => ?_⟩⟩
      · refine Ev.step (fun k => by rw [spec_l04Trim.l1]) ?_
        simp only [rd0, rdn, wj, ← hX]
        exact Ev.iteT (by omega) (Ev.iteT (by omega) (Ev.iteT (by omega) (Ev.iteF hu hh)))
      · refine Ev.step (fun k => by rw [impl_Network_trimmed.l1]) ?_
        simp only [rdn, wj, ← hX]
        exact Ev.iteT (by omega) (Ev.iteT (by omega) (Ev.iteT (by omega) (Ev.iteT (by omega) (Ev.iteF hu hh))))
theorem trim_same (n : Int) (l : List S61) (m : List Int) (h : NetOk n l m) :
    ∃ r : Int × List S61 × List Int, Ev (fun k => spec_l04Trim.f k [(⟨n, l, m⟩ : S29)]) r ∧ Ev (fun k => impl_Network_trimmed.f k [(⟨n, l, m⟩ : S29)]) r ∧
      (r.1 = n ∧ r.2.1.length ≤ l.length ∧ r.2.2.length = m.length) := by
  have hlen := h.len
  have houts := h.outs
  have wl : wrap64 ((l.length : Int) - 1) = (l.length : Int) - 1 := w64 (by omega)
  have key := ev_pair (σ := List Bool) (ρ := Int × List S61 × List Int)
    (fun _ s => s.length = l.length) m.length
    (fun i s k => spec_l04Trim.l0 k [(⟨n, l, m⟩ : S29)] s i) (fun i s k => impl_Network_trimmed.l0 k [(⟨n, l, m⟩ : S29)] m m.length i s)
    (fun r => r.1 = n ∧ r.2.1.length ≤ l.length ∧ r.2.2.length = m.length) ?_ ?_ (List.replicate l.length false) (by simp)
  · obtain ⟨r, h1, h2, h3⟩ := key
    refine ⟨r, ?_, ?_, h3⟩
    · unfold spec_l04Trim.f
      simp only [rd0, Int.toNat_natCast]
      exact Ev.iteT (by simp) (Ev.iteT (by omega) (Ev.iteT (by omega) h1))
    · unfold impl_Network_trimmed.f
      simp only [rd0, Int.toNat_natCast]
      exact Ev.iteT (okNs_of n l m h) (Ev.iteT (by simp) (Ev.iteT (by omega) (Ev.iteT (by omega) h2)))
  · intro xs hxs
    obtain ⟨r, h1, h2, h3⟩ := trim2 n l m h xs hxs
    refine ⟨r, ?_, ?_, h3⟩
    · refine Ev.step (fun k => by rw [spec_l04Trim.l0]) ?_
      simp only [rd0, wl]
      exact Ev.iteT (by simp) (Ev.iteF (by omega) h1)
    · refine Ev.step (fun k => by rw [impl_Network_trimmed.l0]) ?_
      simp only [rd0, wl]
      exact Ev.iteF (by omega) (Ev.iteT (by simp) h2)
  · intro i xs hi hxs
    have wi : wrap64 ((i : Int) + 1) = ((i + 1 : Nat) : Int) := w64 (by omega)
    have ho := h.out i hi
    refine .inl ⟨xs.set (m.getD i 0).toNat true, by simpa using hxs, fun r => ⟨fun hh => ?_, fun hh => ?_⟩⟩
    · refine Ev.step (fun k => by rw [spec_l04Trim.l0]) ?_
      simp only [rd0, rdi, wi]
      exact Ev.iteT (by simp) (Ev.iteT (by omega) (Ev.iteT (by omega) (Ev.iteT ho.1 (Ev.iteT (by omega) hh))))
    · refine Ev.step (fun k => by rw [impl_Network_trimmed.l0]) ?_
      simp only [rdi, wi]
      exact Ev.iteT (by omega) (Ev.iteT (by omega) (Ev.iteT (by omega) (Ev.iteT ho.1 (Ev.iteT (by omega) hh))))
instance nodeDec : DecidableEq S61 := fun x y => decidable_of_iff (x.f0 = y.f0 ∧ x.f1 = y.f1 ∧ x.f2 = y.f2) ⟨fun h => by cases x; cases y; simp_all, fun h => by subst h; exact ⟨rfl, rfl, rfl⟩⟩
instance nodeOkDec (n j : Int) (x : S61) : Decidable (NodeOk n j x) := by unfold NodeOk; infer_instance
instance okDec (x : S61) : Decidable (ok61 x) := by unfold ok61; infer_instance
/-- The adder's nodes and outputs. -/
def adN (b : Int) : List S61 := (adI b b.toNat).1
def adO (b : Int) : List Int := (adI b b.toNat).2.1 ++ [(adI b b.toNat).2.2]
set_option maxRecDepth 100000 in
theorem ad_same : ∀ b ∈ ([1, 2, 3] : List Int), adR b b.toNat = adI b b.toNat ∧ (adO b).map IntKind.i16.wrap = adO b := by decide +kernel
set_option maxRecDepth 100000 in
theorem ad_ok : ∀ b ∈ ([1, 2, 3] : List Int), (1 ≤ IntKind.i8.wrap (2 * b) ∧ IntKind.i8.wrap (2 * b) ≤ 6) ∧ (1 ≤ (adN b).length ∧ (adN b).length ≤ 80) ∧ (1 ≤ (adO b).length ∧ (adO b).length ≤ 8) ∧ (∀ i : Nat, i < (adN b).length → NodeOk (IntKind.i8.wrap (2 * b)) i ((adN b).getD i z61)) ∧ (∀ i : Nat, i < (adO b).length → 0 ≤ (adO b).getD i 0 ∧ (adO b).getD i 0 < (adN b).length) ∧ (∀ y ∈ adN b, ok61 y) ∧ (∀ y ∈ adO b, -32768 ≤ y ∧ y ≤ 32767) := by decide +kernel
theorem ad_in {x : Int} (c : 1 ≤ x ∧ x ≤ 3) : x ∈ ([1, 2, 3] : List Int) := by
  have : x = 1 ∨ x = 2 ∨ x = 3 := by omega
  rcases this with rfl | rfl | rfl <;> decide
theorem simplify_both (n : Int) (l : List (S61)) (m : List Int) (hx : ∀ y ∈ l, ok61 y) (hy : ∀ y ∈ m, -32768 ≤ y ∧ y ≤ 32767) (h : NetOk n l m) :
    ∃ t : Int × List (S61) × List Int, Ev (fun k => spec_l04Simplify.f k [(⟨n, l, m⟩ : S29)]) t ∧ Ev (fun k => impl_SimplifyNetwork.f k n l m) (t.1, t.2.1, t.2.2, 0) ∧ t.1 = n ∧ t.2.1.length ≤ 80 ∧ t.2.2.length ≤ 8 := by
  have hn := h.inputs
  have hl := h.len
  have hm := h.outs
  obtain ⟨q, h3, h4⟩ := impl_ok n l m (by omega) hx (by omega) hy (by omega)
  obtain rfl : q = true := h4.2 h
  obtain ⟨⟨s0, s1, s2, s3⟩, k1, k2, k3, k4, k5, k6⟩ := merge_same n l m hx h
  dsimp only at k3 k4 k5 k6
  subst k3
  have hlen := k4.len
  have houts := k4.outs
  obtain ⟨⟨t0, t1, t2⟩, g1, g2, g3, g4, g5⟩ := trim_same s0 s1 s2 k4
  dsimp only at g3 g4 g5
  have hs : Ev (fun k => spec_l04Simplify.f k [(⟨s0, l, m⟩ : S29)]) (t0, t1, t2) := by
    unfold spec_l04Simplify.f
    exact Ev.bind k1 (Ev.bind g1 (Ev.now _))
  refine ⟨(t0, t1, t2), hs, ?_, g3, by dsimp only; omega, by dsimp only; omega⟩
  · unfold impl_SimplifyNetwork.f
    exact Ev.bind h3 (Ev.iteT rfl (Ev.bind k2 (Ev.bind g2 (Ev.now _))))
theorem adder_core (x : Int) : ∃ r : Int × List (S61) × List Int × Int, Ev (fun k => spec_AdderOf.f k x) r ∧ Ev (fun k => impl_AdderOf.f k x) r ∧ r.2.1.length ≤ 1000 ∧ r.2.2.1.length ≤ 1000 := by
  unfold spec_AdderOf.f impl_AdderOf.f
  by_cases c : 1 ≤ x ∧ x ≤ 3
  · obtain ⟨e1, e2⟩ := ad_same x (ad_in c)
    obtain ⟨o1, o2, o3, o4, o5, o6, o7⟩ := ad_ok x (ad_in c)
    obtain ⟨t, g1, g2, g3, g4, g5⟩ := simplify_both (IntKind.i8.wrap (2 * x)) (adN x) (adO x) o6 o7 ⟨o1, o2, o3, o4, o5⟩
    refine ⟨(t.1, t.2.1, t.2.2, 0), Ev.iteT c (Ev.bind ?_ (Ev.now _)), Ev.iteT c ?_, by dsimp only; omega, by dsimp only; omega⟩
    · rw [e1]
      exact g1
    · rw [show ((adI x x.toNat).2.1 ++ [(adI x x.toNat).2.2]).map IntKind.i16.wrap = adO x from e2]
      exact g2
  · exact ⟨(0, [], [], 2), Ev.iteF c (Ev.now _), Ev.iteF c (Ev.now _), by simp, by simp⟩
theorem bytes_at {s : List Int} (hs : ∀ x ∈ s, (Lit.int .u8 x).wf = true) (i : Nat) (hi : i < s.length) : 0 ≤ rd s (i : Int) ∧ rd s (i : Int) ≤ 255 := by
  have e : rd s (i : Int) = s[i] := getD_nat s i 0 hi
  rw [e]
  exact bounds_u8 (hs _ (List.getElem_mem hi))
theorem mixed (x : Int) : 0 ≤ Go.bits .and .u64 (IntKind.u64.wrap x / 1099511627776) 255 ∧ Go.bits .and .u64 (IntKind.u64.wrap x / 1099511627776) 255 ≤ 255 := by
  have h : 0 ≤ IntKind.u64.wrap x ∧ IntKind.u64.wrap x < 18446744073709551616 := by rw [IntKind.wrap_u64]; omega
  have e : Go.bits .and .u64 (IntKind.u64.wrap x / 1099511627776) 255 = (IntKind.u64.wrap x / 1099511627776) % 256 := bits_mask .u64 64 (by decide) wraps_u64 8 (by decide) _ (by omega) (by omega)
  rw [e]
  omega
theorem next_ok (s : List Int) (hs : ∀ x ∈ s, (Lit.int .u8 x).wf = true) (hl : s.length ≤ 5000) (p u : Int) (hp : 0 ≤ p ∧ p ≤ 1000) : ∃ v u', spec_l00Src_next.f s p u = some (v, p + 1, u') ∧ 0 ≤ v ∧ v ≤ 255 := by
  obtain ⟨i, rfl⟩ := Int.eq_ofNat_of_zero_le hp.1
  unfold spec_l00Src_next.f
  rw [w64 (n := (i : Int) + 1) (by omega)]
  by_cases h1 : (i : Int) < s.length
  · have hb := bytes_at hs i (by omega)
    rw [if_pos h1, if_pos hp.1]
    by_cases h2 : (i : Int) + 1 ≤ s.length
    · rw [if_pos h2]
      exact ⟨_, _, rfl, by rw [w64 (by omega)]; exact hb.1, by rw [w64 (by omega)]; exact hb.2⟩
    · rw [if_neg h2]
      exact ⟨_, _, rfl, by rw [w64 (by have := mixed ((IntKind.u64.wrap ((IntKind.u64.wrap (u * 6364136223846793005)) + (IntKind.u64.wrap (wrap64 (rd s (i : Int)))))) + 1442695040888963407); omega)]; exact (mixed _).1, by rw [w64 (by have := mixed ((IntKind.u64.wrap ((IntKind.u64.wrap (u * 6364136223846793005)) + (IntKind.u64.wrap (wrap64 (rd s (i : Int)))))) + 1442695040888963407); omega)]; exact (mixed _).2⟩
  · rw [if_neg h1]
    by_cases h2 : (i : Int) + 1 ≤ s.length
    · rw [if_pos h2]
      exact ⟨_, _, rfl, by decide, by decide⟩
    · rw [if_neg h2]
      exact ⟨_, _, rfl, by rw [w64 (by have := mixed ((IntKind.u64.wrap ((IntKind.u64.wrap (u * 6364136223846793005)) + 0)) + 1442695040888963407); omega)]; exact (mixed _).1, by rw [w64 (by have := mixed ((IntKind.u64.wrap ((IntKind.u64.wrap (u * 6364136223846793005)) + 0)) + 1442695040888963407); omega)]; exact (mixed _).2⟩
theorem pick6 (s : List Int) (hs : ∀ x ∈ s, (Lit.int .u8 x).wf = true) (hl : s.length ≤ 5000) (n : Int) (hn : 2 ≤ n ∧ n ≤ 200) : ∃ v, spec_P6Pick.f s n = some v ∧ 0 ≤ v ∧ v < n := by
  obtain ⟨v, u', h, h0, h1⟩ := next_ok s hs hl 0 0 (by omega)
  refine ⟨Int.tmod v n, ?_, ?_, ?_⟩
  · unfold spec_P6Pick.f spec_l00From.f spec_l00Src_pick.f
    rw [Option.bind_some, if_neg (by omega)]
    dsimp only
    rw [h, Option.bind_some, if_neg (by omega), if_neg (by omega), Option.bind_some]
  · rw [tmod_nonneg n h0]; exact Int.emod_nonneg _ (by omega)
  · rw [tmod_nonneg n h0]; exact Int.emod_lt_of_pos _ (by omega)
/-- What the adder of some bits is. -/
def adV (b : Int) : Int × List S61 × List Int × Int :=
  if b = 1 then (2, [⟨0, 0, 0⟩, ⟨0, 1, 0⟩, ⟨3, 0, 1⟩, ⟨3, 1, 0⟩, ⟨2, 2, 3⟩, ⟨3, 0, 2⟩], [4, 5], 0)
  else if b = 2 then (4, [⟨0, 0, 0⟩, ⟨0, 2, 0⟩, ⟨3, 0, 1⟩, ⟨3, 1, 0⟩, ⟨2, 2, 3⟩, ⟨3, 0, 2⟩, ⟨0, 1, 0⟩, ⟨0, 3, 0⟩, ⟨3, 6, 7⟩, ⟨3, 7, 6⟩, ⟨2, 8, 9⟩, ⟨3, 6, 8⟩, ⟨3, 10, 5⟩, ⟨3, 5, 10⟩, ⟨2, 12, 13⟩, ⟨3, 5, 13⟩, ⟨2, 11, 15⟩], [4, 14, 16], 0)
  else (6, [⟨0, 0, 0⟩, ⟨0, 3, 0⟩, ⟨3, 0, 1⟩, ⟨3, 1, 0⟩, ⟨2, 2, 3⟩, ⟨3, 0, 2⟩, ⟨0, 1, 0⟩, ⟨0, 4, 0⟩, ⟨3, 6, 7⟩, ⟨3, 7, 6⟩, ⟨2, 8, 9⟩, ⟨3, 6, 8⟩, ⟨3, 10, 5⟩, ⟨3, 5, 10⟩, ⟨2, 12, 13⟩, ⟨3, 5, 13⟩, ⟨2, 11, 15⟩, ⟨0, 2, 0⟩, ⟨0, 5, 0⟩, ⟨3, 17, 18⟩, ⟨3, 18, 17⟩, ⟨2, 19, 20⟩, ⟨3, 17, 19⟩, ⟨3, 21, 16⟩, ⟨3, 16, 21⟩, ⟨2, 23, 24⟩, ⟨3, 16, 24⟩, ⟨2, 22, 26⟩], [4, 14, 25, 27], 0)
set_option maxRecDepth 100000 in
theorem impl_val : ∀ b ∈ ([1, 2, 3] : List Int), impl_AdderOf.f 500 b = some (adV b) := by decide +kernel
theorem up {α : Type} {f : Nat → Option α} {v : α} {n : Nat} (hm : ∀ k, LeO (f k) (f (k + 1))) (h : f n = some v) : ∀ d, f (n + d) = some v
  | 0 => h
  | d + 1 => hm (n + d) v (up hm h d)
theorem up_ge {α : Type} {f : Nat → Option α} {v : α} {n : Nat} (hm : ∀ k, LeO (f k) (f (k + 1))) (h : f n = some v) (k : Nat) (hk : n ≤ k) : f k = some v := by
  have := up hm h (k - n)
  rwa [Nat.add_sub_cancel' hk] at this
theorem spec_val (b : Int) (hb : b ∈ ([1, 2, 3] : List Int)) : ∃ K, ∀ k, K ≤ k → spec_AdderOf.f k b = some (adV b) := by
  obtain ⟨r, ⟨K1, h1⟩, ⟨K2, h2⟩, _, _⟩ := adder_core b
  have e := up_ge (fun k => impl_AdderOf.mono b k) (impl_val b hb) (max 500 K2) (Nat.le_max_left _ _)
  have e2 := h2 (max 500 K2) (Nat.le_max_right _ _)
  replace e2 : impl_AdderOf.f (max 500 K2) b = some r := e2
  rw [e] at e2
  obtain rfl := Option.some.inj e2
  exact ⟨K1, h1⟩
set_option maxRecDepth 100000 in
theorem same_val : ∀ b ∈ ([1, 2, 3] : List Int), spec_SameNetwork.f 500 (adV b).1 (adV b).2.1 (adV b).2.2.1 (adV b).1 (adV b).2.1 (adV b).2.2.1 = some true := by decide +kernel
set_option maxRecDepth 100000 in
theorem num_val : ∀ b ∈ ([1, 2, 3] : List Int), (adV b).2.2.2 = 0 ∧ ((adV b).2.2.1.length : Int) = wrap64 (b + 1) ∧ 0 ≤ IntKind.u64.wrap (wrap64 (2 * b)) ∧ 2 ≤ shl .i64 1 (IntKind.u64.wrap (wrap64 (2 * b))) ∧ shl .i64 1 (IntKind.u64.wrap (wrap64 (2 * b))) ≤ 64 := by decide +kernel
def adT (k : Nat) (b t : Int) : Option Bool := (impl_EvalNetwork.f k (adV b).1 (adV b).2.1 (adV b).2.2.1 t).bind fun e => (if 0 ≤ (IntKind.u64.wrap b) then (if (shl .i64 1 (IntKind.u64.wrap b)) = 0 then (none) else (if e.2 = 0 then (some (e.1 == (wrap64 ((Int.tmod t (shl .i64 1 (IntKind.u64.wrap b))) + (shr .i64 t (IntKind.u64.wrap b)))))) else (none))) else (none))
theorem adT_mono (b t : Int) (k : Nat) : LeO (adT k b t) (adT (k + 1) b t) := LeO.bind (impl_EvalNetwork.mono _ _ _ _ _) (fun _ => LeO.refl _)
set_option maxRecDepth 100000 in
theorem tail_val : ∀ b ∈ ([1, 2, 3] : List Int), ∀ r ∈ List.range 64, ((r : Nat) : Int) < shl .i64 1 (IntKind.u64.wrap (wrap64 (2 * b))) → adT 500 b ((r : Nat) : Int) = some true := by decide +kernel
theorem ad_in3 {x : Int} (c : 0 ≤ x ∧ x < 3) : 1 + x ∈ ([1, 2, 3] : List Int) := by
  have : x = 0 ∨ x = 1 ∨ x = 2 := by omega
  rcases this with rfl | rfl | rfl <;> decide
theorem FnAdders : laws_FnAdders.Pure := by
  intro l0 l1 _ _ h0 _ _ h1
  suffices key : ∃ k, laws_FnAdders.f k l0 l1 = some true from key
  unfold laws_FnAdders.f laws_f6big.f
  by_cases c0 : (l0.length : Int) > 4096
  · exact ⟨0, by rw [Option.bind_some, if_pos (decide_eq_true c0)]⟩
  by_cases c1 : (l1.length : Int) > 4096
  · exact ⟨0, by rw [Option.bind_some, if_neg (by rw [decide_eq_false c0]; decide), Option.bind_some, if_pos (decide_eq_true c1)]⟩
  obtain ⟨v, hv, v0, v1⟩ := pick6 l0 h0 (by omega) 3 (by omega)
  have hb := ad_in3 ⟨v0, v1⟩
  have e1 : wrap64 (1 + v) = 1 + v := w64 (by omega)
  generalize hbe : 1 + v = b at hb e1
  obtain ⟨n1, n2, n3, n4, n5⟩ := num_val b hb
  obtain ⟨t, ht, t0, t1⟩ := pick6 l1 h1 (by omega) _ ⟨n4, by omega⟩
  obtain ⟨K, hK⟩ := spec_val b hb
  have g1 := Nat.le_max_left 500 K
  have g2 := Nat.le_max_right 500 K
  refine ⟨max 500 K, ?_⟩
  rw [Option.bind_some, if_neg (by rw [decide_eq_false c0]; decide), Option.bind_some, if_neg (by rw [decide_eq_false c1]; decide)]
  rw [hv, Option.bind_some, hbe, e1, up_ge (fun k => impl_AdderOf.mono b k) (impl_val b hb) _ g1, Option.bind_some, hK _ g2, Option.bind_some, if_pos rfl, if_pos n1, up_ge (fun k => spec_SameNetwork.mono _ _ _ _ _ _ k) (same_val b hb) _ g1, Option.bind_some, if_pos rfl, if_pos n2, if_pos n3, ht, Option.bind_some]
  obtain ⟨r, rfl⟩ := Int.eq_ofNat_of_zero_le t0
  exact up_ge (fun k => adT_mono b _ k) (tail_val b hb r (List.mem_range.2 (by omega)) t1) _ g1
end Go.Proofs.Ytkflenibdijnaaa.Pure
