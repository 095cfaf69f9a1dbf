/- The pure side of the law FnExactFormulaOf: for all arguments its Lean function answers true. No condition beside the arguments' kinds. -/
import Derived.Test.YtmpmanfoiocfgaaQFnExactFormulaOf
import Derived.Test.YtmpmanfoiocfgaaTFnExactFormulaOfa
namespace Go.Proofs.Ytmpmanfoiocfgaa.Pure
open Go.RowKit Go.Proofs.Ytmpmanfoiocfgaa.PFnExactFormulaOf Go.Proofs.YtmpmanfoiocfgaaW.PrintWords Go.Proofs.YtmpmanfoiocfgaaW.PrintLast Go.Proofs.YtmpmanfoiocfgaaX Go.Proofs.Ytmpmanfoiocfgaa.QFnExactFormulaOf Go.Proofs.YtmpmanfoiocfgaaB
set_option linter.unusedVariables false
set_option linter.unusedSimpArgs false

theorem szNodeS (l0 : List (S131)) (a_ : Int) (ha : 0 ≤ a_ ∧ a_ ≤ 1048576) (hl0 : l0.length ≤ 9223372036854775807) : ∃ r, laws_szNodeS.f l0 a_ = some r ∧ (r < 0 ∨ (r = a_ - l0.length ∧ 0 ≤ r)) := by
  unfold laws_szNodeS.f
  rw [w64 (n := a_ - l0.length) (by omega)]
  by_cases h : a_ - (l0.length : Int) < 0
  · exact ⟨-1, by rw [if_pos h], .inl (by omega)⟩
  · exact ⟨_, by rw [if_neg h], .inr ⟨rfl, by omega⟩⟩
theorem szInt16S (l0 : List (Int)) (a_ : Int) (ha : 0 ≤ a_ ∧ a_ ≤ 1048576) (hl0 : l0.length ≤ 9223372036854775807) : ∃ r, laws_szInt16S.f l0 a_ = some r ∧ (r < 0 ∨ (r = a_ - l0.length ∧ 0 ≤ r)) := by
  unfold laws_szInt16S.f
  rw [w64 (n := a_ - l0.length) (by omega)]
  by_cases h : a_ - (l0.length : Int) < 0
  · exact ⟨-1, by rw [if_pos h], .inl (by omega)⟩
  · exact ⟨_, by rw [if_neg h], .inr ⟨rfl, by omega⟩⟩
theorem szNetwork (a0_0 : Int) (l0_1 : List (S131)) (l0_2 : List (Int)) (a_ : Int) (ha : 0 ≤ a_ ∧ a_ ≤ 1048576) (hl0_1 : l0_1.length ≤ 9223372036854775807) (hl0_2 : l0_2.length ≤ 9223372036854775807) : ∃ r, laws_szNetwork.f a0_0 l0_1 l0_2 a_ = some r ∧ (r < 0 ∨ (r = a_ - l0_1.length - l0_2.length ∧ 0 ≤ r)) := by
  unfold laws_szNetwork.f
  obtain ⟨r0, e0, c0⟩ := szNodeS l0_1 (a_) (by omega) hl0_1
  rw [e0]
  simp only [Option.bind_some]
  rcases c0 with c0 | ⟨rfl, c0⟩
  · exact ⟨-1, by rw [if_pos c0], .inl (by omega)⟩
  rw [if_neg (by omega)]
  obtain ⟨r1, e1, c1⟩ := szInt16S l0_2 (a_ - l0_1.length) (by omega) hl0_2
  rw [e1]
  simp only [Option.bind_some]
  rcases c1 with c1 | ⟨rfl, c1⟩
  · exact ⟨-1, by rw [if_pos c1], .inl (by omega)⟩
  rw [if_neg (by omega)]
  exact ⟨_, rfl, .inr ⟨rfl, by omega⟩⟩
theorem toNode (a0_0 : Int) (a0_1 : Int) (a0_2 : Int)  : laws_toNode.f a0_0 a0_1 a0_2 = some (a0_0, a0_1, a0_2) := by
  unfold laws_toNode.f
  simp
def cv131_81 (x : S131) : S81 := ⟨x.f0, x.f1, x.f2⟩
theorem toNodeS (l0 : List (S131)) (hl0 : l0.length ≤ 1099511627776) : Ev (fun k => laws_toNodeS.f k l0) (l0.map cv131_81) := by
  suffices main : Ev (fun k => laws_toNodeS.f k l0) (l0.map cv131_81) by exact main
  unfold laws_toNodeS.f
  refine Ev.iteT (by omega) (Ev.iteT (by omega) ?_)
  rw [Int.toNat_natCast]
  refine ev_fill2 (g := fun k x i => laws_toNodeS.l0 k l0 x i) cv131_81 l0 _ (Ev.step (f := fun _ => some _) (fun k => by simp [laws_toNodeS.l0]) (Ev.now _)) fun i h x hx ih => ?_
  have eg : l0.getD i z131 = l0[i] := getD_at _ _ _ h
  refine Ev.step (fun k => by rw [laws_toNodeS.l0]) (Ev.iteT (by omega) (Ev.iteT (by omega) ?_))
  simp only [rd_T131, Int.toNat_natCast, eg]
  refine Ev.bindc (toNode _ _ _ ) ?_
  refine Ev.iteT (by omega) ?_
  rw [w64 (by omega)]
  exact ih
theorem toInt16S (l0 : List (Int)) (hl0 : l0.length ≤ 1099511627776) : Ev (fun k => laws_toInt16S.f k l0) l0 := by
  suffices main : Ev (fun k => laws_toInt16S.f k l0) (l0.map id) by rwa [List.map_id] at main
  unfold laws_toInt16S.f
  refine Ev.iteT (by omega) (Ev.iteT (by omega) ?_)
  rw [Int.toNat_natCast]
  refine ev_fill2 (g := fun k x i => laws_toInt16S.l0 k l0 x i) id l0 _ (Ev.step (f := fun _ => some _) (fun k => by simp [laws_toInt16S.l0]) (Ev.now _)) fun i h x hx ih => ?_
  have eg : l0.getD i (0 : Int) = l0[i] := getD_at _ _ _ h
  refine Ev.step (fun k => by rw [laws_toInt16S.l0]) (Ev.iteT (by omega) (Ev.iteT (by omega) ?_))
  simp only [rd, Int.toNat_natCast, eg]
  refine Ev.iteT (by omega) ?_
  rw [w64 (by omega)]
  exact ih
theorem toNetwork (a0_0 : Int) (l0_1 : List (S131)) (l0_2 : List (Int)) (hl0_1 : l0_1.length ≤ 1099511627776) (hl0_2 : l0_2.length ≤ 1099511627776) : Ev (fun k => laws_toNetwork.f k a0_0 l0_1 l0_2) (a0_0, (l0_1.map cv131_81), l0_2) := by
  unfold laws_toNetwork.f
  exact (Ev.bind (toNodeS _ (by first | omega | ((try dsimp only); (try simp only [List.length_map, List.length_range, List.length_nil]); omega) | (simp; omega))) (Ev.bind (toInt16S _ (by first | omega | ((try dsimp only); (try simp only [List.length_map, List.length_range, List.length_nil]); omega) | (simp; omega))) (Ev.now _)))
theorem eqNode (a0_0 : Int) (a0_1 : Int) (a0_2 : Int)  : laws_eqNode.f a0_0 a0_1 a0_2 a0_0 a0_1 a0_2 = some true := by
  unfold laws_eqNode.f
  simp
theorem eqNodeS (l0 : List (S81)) (hl0 : l0.length ≤ 1099511627776) : Ev (fun k => laws_eqNodeS.f k l0 l0) true := by
  unfold laws_eqNodeS.f
  refine Ev.iteT rfl ?_
  refine ev_loop2 (g := fun k i => laws_eqNodeS.l0 k l0 l0 i) (fun i => (i : Int)) l0.length (Ev.step (f := fun _ => some _) (fun k => by simp [laws_eqNodeS.l0]) (Ev.now _)) fun i h ih => ?_
  refine Ev.step (fun k => by rw [laws_eqNodeS.l0]) (Ev.iteT (by omega) (Ev.iteT (by omega) (Ev.iteT (by omega) ?_)))
  refine Ev.bindc (eqNode _ _ _ ) (Ev.iteT rfl ?_)
  rw [w64 (by omega)]
  exact ih
theorem eqInt16S (l0 : List (Int)) (hl0 : l0.length ≤ 1099511627776) : Ev (fun k => laws_eqInt16S.f k l0 l0) true := by
  unfold laws_eqInt16S.f
  refine Ev.iteT rfl ?_
  refine ev_loop2 (g := fun k i => laws_eqInt16S.l0 k l0 l0 i) (fun i => (i : Int)) l0.length (Ev.step (f := fun _ => some _) (fun k => by simp [laws_eqInt16S.l0]) (Ev.now _)) fun i h ih => ?_
  refine Ev.step (fun k => by rw [laws_eqInt16S.l0]) (Ev.iteT (by omega) (Ev.iteT (by omega) (Ev.iteT (by omega) ?_)))
  refine Ev.iteT rfl ?_
  rw [w64 (by omega)]
  exact ih
theorem eqNetwork (a0_0 : Int) (l0_1 : List (S81)) (l0_2 : List (Int)) (hl0_1 : l0_1.length ≤ 1099511627776) (hl0_2 : l0_2.length ≤ 1099511627776) : Ev (fun k => laws_eqNetwork.f k a0_0 l0_1 l0_2 a0_0 l0_1 l0_2) true := by
  unfold laws_eqNetwork.f
  exact (Ev.iteT rfl (Ev.bind (eqNodeS _ (by first | omega | ((try dsimp only); (try simp only [List.length_map, List.length_range, List.length_nil]); omega) | (simp; omega))) (Ev.iteT rfl (Ev.bind (eqInt16S _ (by first | omega | ((try dsimp only); (try simp only [List.length_map, List.length_range, List.length_nil]); omega) | (simp; omega))) (Ev.iteT rfl (Ev.now _))))))
def ok81 (x : S81) : Prop := (-128 ≤ x.f0 ∧ x.f0 ≤ 127) ∧ (-32768 ≤ x.f1 ∧ x.f1 ≤ 32767) ∧ (-32768 ≤ x.f2 ∧ x.f2 ≤ 32767)
theorem okof131_81 {x : S131} (h : wf131 x) : ok81 (cv131_81 x) := by
  obtain ⟨h0, h1, h2⟩ := h
  exact ⟨(i8b h0), (i16b h1), (i16b h2)⟩
/-- What a node at place j may be, of a network with n inputs. -/
def NodeOk (n j : Int) (x : S81) : Prop := (x.f0 = 0 ∧ 0 ≤ x.f1 ∧ x.f1 < n ∧ x.f2 = 0) ∨ (x.f0 = 1 ∧ x.f1 = 0 ∧ x.f2 = 0) ∨ ((x.f0 = 2 ∨ x.f0 = 3) ∧ 0 ≤ x.f1 ∧ x.f1 < j ∧ 0 ≤ x.f2 ∧ x.f2 < j)
structure NetOk (n : Int) (l : List (S81)) (m : List Int) : Prop where
  inputs : 1 ≤ n ∧ n ≤ 6
  len : 1 ≤ l.length ∧ l.length ≤ 80
  outs : 1 ≤ m.length ∧ m.length ≤ 8
  node : ∀ i : Nat, i < l.length → NodeOk n i (l.getD i z81)
  out : ∀ i : Nat, i < m.length → 0 ≤ m.getD i 0 ∧ m.getD i 0 < l.length
theorem in_same : spec_l00In.f = impl_in.f := rfl
theorem in_some (a b c : Int) : impl_in.f a b c = some (decide (b ≤ a ∧ a ≤ c)) := by
  unfold impl_in.f
  by_cases h : b ≤ a <;> simp [h]
theorem rd0 (n : Int) (l : List (S81)) (m : List Int) : rd_T31 [(⟨n, l, m⟩ : S31)] 0 = ⟨n, l, m⟩ := id rfl
theorem rdn (l : List (S81)) (i : Nat) : rd_T81 l (i : Int) = l.getD i z81 := id rfl
theorem rdi (l : List Int) (i : Nat) : rd l (i : Int) = l.getD i 0 := id rfl
theorem ok_at {l : List (S81)} (h : ∀ y ∈ l, ok81 y) (i : Nat) : ok81 (l.getD i z81) := by
  by_cases hi : i < l.length
  · rw [getD_at _ _ _ hi]; exact h _ (List.getElem_mem hi)
  · rw [List.getD_eq_getElem?_getD, List.getElem?_eq_none (by omega)]; simp [ok81, z81]
theorem i16_at {l : List Int} (h : ∀ y ∈ l, -32768 ≤ y ∧ y ≤ 32767) (i : Nat) : -32768 ≤ l.getD i 0 ∧ l.getD i 0 ≤ 32767 := by
  by_cases hi : i < l.length
  · rw [getD_at _ _ _ hi]; exact h _ (List.getElem_mem hi)
  · rw [List.getD_eq_getElem?_getD, List.getElem?_eq_none (by omega)]; simp
theorem spec_node (n : Int) (l : List (S81)) (m : List Int) (hn : -128 ≤ n ∧ n ≤ 127) (hx : ∀ y ∈ l, ok81 y) (i : Nat) (hi : i < l.length) :
    ∃ r, spec_l04Node.f [(⟨n, l, m⟩ : S31)] i = some r ∧ (r = true ↔ NodeOk n i (l.getD i z81)) := by
  have hb := ok_at hx i
  obtain ⟨⟨x0, x1, x2⟩, hX⟩ : ∃ x, x = l.getD i z81 := ⟨_, rfl⟩
  unfold spec_l04Node.f NodeOk
  simp only [rd0, rdn]
  rw [← hX] at hb ⊢
  obtain ⟨b0, b1, b2⟩ := hb
  dsimp only at b0 b1 b2 ⊢
  rw [if_pos (by simp), if_pos (by omega), if_pos (by omega), w16 (n := n) (by omega), w64 (n := x1) (by omega), w64 (n := x2) (by omega)]
  by_cases h0 : x0 = 0
  · subst h0
    by_cases h1 : x1 ≥ 0 <;> by_cases h2 : x1 < n <;> simp [h1, h2] <;> omega
  · by_cases h1 : x0 = 1
    · subst h1
      by_cases h2 : x1 = 0 <;> simp [h2]
    · by_cases h2 : x0 = 2
      · subst h2
        by_cases h3 : x1 ≥ 0 <;> by_cases h4 : x1 < (i : Int) <;> by_cases h5 : x2 ≥ 0 <;> simp [h3, h4, h5] <;> omega
      · by_cases h2 : x0 = 3
        · subst h2
          by_cases h3 : x1 ≥ 0 <;> by_cases h4 : x1 < (i : Int) <;> by_cases h5 : x2 ≥ 0 <;> simp [h3, h4, h5] <;> omega
        · exact ⟨false, by simp [*], by simp; omega⟩
theorem impl_node (n : Int) (x : S81) (hn : -128 ≤ n ∧ n ≤ 127) (hx : ok81 x) (i : Nat) (hi : i ≤ 1048576) :
    ∃ r, Ev (fun k => impl_Node_ok.f k x.f0 x.f1 x.f2 (wrap64 n) i) r ∧ (r = true ↔ NodeOk n i x) := by
  obtain ⟨x0, x1, x2⟩ := x
  obtain ⟨b0, b1, b2⟩ := hx
  unfold impl_Node_ok.f NodeOk
  dsimp only at b0 b1 b2 ⊢
  rw [w64 (n := n) (by omega), w64 (n := x1) (by omega), w64 (n := x2) (by omega), w64 (n := n - 1) (by omega)]
  have hj : ∀ b, Ev (fun k => impl_Node_ok.j0 k i x1 x2 b) (b && (decide (0 ≤ x1 ∧ x1 ≤ (i : Int) - 1) && decide (0 ≤ x2 ∧ x2 ≤ (i : Int) - 1))) := by
    intro b
    refine Ev.step (f := fun _ => some (b && (decide (0 ≤ x1 ∧ x1 ≤ (i : Int) - 1) && decide (0 ≤ x2 ∧ x2 ≤ (i : Int) - 1)))) (fun k => ?_) (Ev.now _)
    simp only [impl_Node_ok.j0, in_some, Option.bind_some]
    rw [w64 (by omega)]
    cases b <;> by_cases h : 0 ≤ x1 ∧ x1 ≤ (i : Int) - 1 <;> simp [h]
  by_cases h0 : x0 = 0
  · subst h0
    refine ⟨_, Ev.iteT rfl (Ev.bindc (in_some _ _ _) (ev_const (r := decide (0 ≤ x1 ∧ x1 ≤ n - 1) && (x2 == 0)) ?_)), ?_⟩
    · by_cases h : 0 ≤ x1 ∧ x1 ≤ n - 1 <;> simp [h]
    · simp; omega
  · by_cases h1 : x0 = 1
    · subst h1
      refine ⟨_, Ev.iteF (by simp) (Ev.iteT rfl (ev_const (r := decide (x1 = 0) && (x2 == 0)) ?_)), ?_⟩
      · by_cases h : x1 = 0 <;> simp [h]
      · simp
    · by_cases h2 : x0 = 2
      · exact ⟨_, Ev.iteF h0 (Ev.iteF h1 (Ev.iteT h2 (hj _))), by subst h2; simp; omega⟩
      · exact ⟨_, Ev.iteF h0 (Ev.iteF h1 (Ev.iteF h2 (hj _))), by simp; omega⟩
theorem spec_ok (n : Int) (l : List (S81)) (m : List Int) (hn : -128 ≤ n ∧ n ≤ 127) (hx : ∀ y ∈ l, ok81 y) (hl : l.length ≤ 1048576) (hy : ∀ y ∈ m, -32768 ≤ y ∧ y ≤ 32767) (hm : m.length ≤ 1048576) :
    ∃ r, Ev (fun k => spec_l04Ok.f k [(⟨n, l, m⟩ : S31)]) r ∧ (r = true ↔ NetOk n l m) := by
  have hj : Ev (fun k => spec_l04Ok.j0 k [(⟨n, l, m⟩ : S31)] true) false := Ev.step (f := fun _ => some false) (fun k => by simp [spec_l04Ok.j0]) (Ev.now _)
  unfold spec_l04Ok.f
  simp only [in_same, in_some, rd0]
  rw [w64 (n := n) (by omega)]
  by_cases h1 : 1 ≤ n ∧ n ≤ 6
  · by_cases h2 : 1 ≤ (l.length : Int) ∧ (l.length : Int) ≤ 80
    · by_cases h3 : 1 ≤ (m.length : Int) ∧ (m.length : Int) ≤ 8
      · have hout : ∃ r, Ev (fun k => spec_l04Ok.l1 k [(⟨n, l, m⟩ : S31)] 0) r ∧ (r = true ↔ ∀ i : Nat, i < m.length → 0 ≤ m.getD i 0 ∧ m.getD i 0 < l.length) := by
          refine ev_all (g := fun k i => spec_l04Ok.l1 k [(⟨n, l, m⟩ : S31)] i) _ (fun k => by simp [spec_l04Ok.l1, rd0]) (fun i h hp => ⟨0, fun k _ => ?_⟩) (fun i h hp => ⟨0, fun k _ => ?_⟩)
          all_goals
            have hb := i16_at hy i
            simp only [spec_l04Ok.l1, rd0, rdi]
            rw [if_pos (by simp), if_pos (by omega), if_pos (by omega), w64 (n := m.getD i 0) (by omega)]
          · rw [if_neg (by omega), if_neg (by omega), w64 (by omega)]; rfl
          · by_cases h4 : m.getD i 0 < 0
            · rw [if_pos h4]
            · rw [if_neg h4, if_pos (by omega)]
        obtain ⟨r, h4, h5⟩ := hout
        have hnode : ∃ r, Ev (fun k => spec_l04Ok.l0 k [(⟨n, l, m⟩ : S31)] 0) r ∧ (r = true ↔ (∀ i : Nat, i < l.length → NodeOk n i (l.getD i z81)) ∧ ∀ i : Nat, i < m.length → 0 ≤ m.getD i 0 ∧ m.getD i 0 < l.length) := by
          refine ev_scanB (g := fun k i => spec_l04Ok.l0 k [(⟨n, l, m⟩ : S31)] i) (fun i => NodeOk n i (l.getD i z81)) h5 (fun _ => ?_) (fun i h hp s hs => ?_) (fun i h hp => ?_)
          · refine Ev.step (fun k => by rw [spec_l04Ok.l0]) ?_
            simp only [rd0]
            exact Ev.iteT (by simp) (Ev.iteF (by omega) h4)
          all_goals
            obtain ⟨q, h6, h7⟩ := spec_node n l m hn hx i h
            refine Ev.step (fun k => by rw [spec_l04Ok.l0]) ?_
            simp only [rd0]
            refine Ev.iteT (by simp) (Ev.iteT (by omega) (Ev.bindc h6 ?_))
          · refine Ev.iteT (h7.2 hp) ?_
            rw [w64 (by omega)]
            exact hs
          · exact Ev.iteF (fun h => hp (h7.1 h)) (Ev.now _)
        obtain ⟨s, h6, h7⟩ := hnode
        refine ⟨s, Ev.iteT (by simp) (Ev.bindc rfl (Ev.iteT (by simpa using h1) (Ev.bindc rfl (Ev.iteT (by simpa using h2) (Ev.bindc rfl ?_))))), ?_⟩
        · refine Ev.step (fun k => by rw [spec_l04Ok.j0]) (Ev.iteF (by simp; omega) h6)
        · rw [h7]; exact ⟨fun h => ⟨h1, by omega, by omega, h.1, h.2⟩, fun h => ⟨h.node, h.out⟩⟩
      · refine ⟨false, Ev.iteT (by simp) (Ev.bindc rfl (Ev.iteT (by simpa using h1) (Ev.bindc rfl (Ev.iteT (by simpa using h2) (Ev.bindc rfl ?_))))), ?_⟩
        · rw [show (!decide (1 ≤ (m.length : Int) ∧ (m.length : Int) ≤ 8)) = true by rw [decide_eq_false h3]; rfl]; exact hj
        · simp only [Bool.false_eq_true, false_iff]; intro h; have := h.outs; omega
    · refine ⟨false, Ev.iteT (by simp) (Ev.bindc rfl (Ev.iteT (by simpa using h1) (Ev.bindc rfl (Ev.iteF (by simpa using h2) hj)))), ?_⟩
      simp only [Bool.false_eq_true, false_iff]; intro h; have := h.len; omega
  · refine ⟨false, Ev.iteT (by simp) (Ev.bindc rfl (Ev.iteF (by simpa using h1) hj)), ?_⟩
    simp only [Bool.false_eq_true, false_iff]; intro h; have := h.inputs; omega
theorem impl_out (n : Int) (l : List (S81)) (m : List Int) (hl : l.length ≤ 1048576) (hl0 : 1 ≤ l.length) (hy : ∀ y ∈ m, -32768 ≤ y ∧ y ≤ 32767) (hm : m.length ≤ 1048576) :
    ∃ r, Ev (fun k => slices_ContainsFunc__impl_ValidNetwork_1.f k m [(⟨n, l, m⟩ : S31)]) r ∧ (r = false ↔ ∀ i : Nat, i < m.length → 0 ≤ m.getD i 0 ∧ m.getD i 0 < l.length) := by
  unfold slices_ContainsFunc__impl_ValidNetwork_1.f slices_IndexFunc__impl_ValidNetwork_1.f
  have hv : ∀ i : Nat, i < m.length → impl_ValidNetwork_1.f (rd m i) [(⟨n, l, m⟩ : S31)] = some (!decide (0 ≤ m.getD i 0 ∧ m.getD i 0 < l.length)) := fun i hi => by
    have hb := i16_at hy i
    unfold impl_ValidNetwork_1.f
    simp only [rd0, rdi, in_some, Option.bind_some]
    rw [if_pos (by simp), w64 (n := m.getD i 0) (by omega), w64 (by omega)]
    congr 3
    simp; omega
  rcases first_or_all (fun i => 0 ≤ m.getD i 0 ∧ m.getD i 0 < (l.length : Int)) m.length with h | ⟨j, h1, h2, h3⟩
  · refine ⟨false, Ev.bind (a := -1) (ev_loop2 (g := fun k i => slices_IndexFunc__impl_ValidNetwork_1.l0 k m m.length i [(⟨n, l, m⟩ : S31)]) (fun i => (i : Int)) m.length ?_ fun i hi ih => ?_) (ev_const (by simp)), by simpa using h⟩
    · refine Ev.step (fun k => by rw [slices_IndexFunc__impl_ValidNetwork_1.l0]) ?_
      exact Ev.iteF (by omega) (Ev.now _)
    · refine Ev.step (fun k => by rw [slices_IndexFunc__impl_ValidNetwork_1.l0]) ?_
      refine Ev.iteT (by omega) (Ev.iteT (by omega) (Ev.iteT (by omega) (Ev.bindc (hv i hi) (Ev.iteF (by simpa using h i hi) ?_))))
      rw [w64 (by omega)]
      exact ih
  · refine ⟨true, Ev.bind (a := (j : Int)) (ev_loop2 (g := fun k i => slices_IndexFunc__impl_ValidNetwork_1.l0 k m m.length i [(⟨n, l, m⟩ : S31)]) (fun i => (i : Int)) j ?_ fun i hi ih => ?_) (ev_const (by simp)), ?_⟩
    · refine Ev.step (fun k => by rw [slices_IndexFunc__impl_ValidNetwork_1.l0]) ?_
      exact Ev.iteT (by omega) (Ev.iteT (by omega) (Ev.iteT (by omega) (Ev.bindc (hv j h1) (Ev.iteT (by rw [decide_eq_false h2]; rfl) (Ev.now _)))))
    · refine Ev.step (fun k => by rw [slices_IndexFunc__impl_ValidNetwork_1.l0]) ?_
      refine Ev.iteT (by omega) (Ev.iteT (by omega) (Ev.iteT (by omega) (Ev.bindc (hv i (by omega)) (Ev.iteF (by simpa using h3 i hi) ?_))))
      rw [w64 (by omega)]
      exact ih
    · simp only [Bool.true_eq_false, false_iff]; exact fun h => h2 (h j h1)
theorem impl_ok (n : Int) (l : List (S81)) (m : List Int) (hn : -128 ≤ n ∧ n ≤ 127) (hx : ∀ y ∈ l, ok81 y) (hl : l.length ≤ 1048576) (hy : ∀ y ∈ m, -32768 ≤ y ∧ y ≤ 32767) (hm : m.length ≤ 1048576) :
    ∃ r, Ev (fun k => impl_ValidNetwork.f k n l m) r ∧ (r = true ↔ NetOk n l m) := by
  have hj : Ev (fun k => impl_ValidNetwork.j0 k true n l m) false := Ev.step (f := fun _ => some false) (fun k => by simp [impl_ValidNetwork.j0]) (Ev.now _)
  unfold impl_ValidNetwork.f
  simp only [in_some]
  rw [w64 (n := n) (by omega)]
  by_cases h1 : 1 ≤ n ∧ n ≤ 6
  · by_cases h2 : 1 ≤ (l.length : Int) ∧ (l.length : Int) ≤ 80
    · by_cases h3 : 1 ≤ (m.length : Int) ∧ (m.length : Int) ≤ 8
      · obtain ⟨r, h4, h5⟩ := impl_out n l m hl (by omega) hy hm
        have h5 : (!r) = true ↔ ∀ i : Nat, i < m.length → 0 ≤ m.getD i 0 ∧ m.getD i 0 < l.length := by rw [← h5]; simp
        have hnode : ∃ r, Ev (fun k => impl_ValidNetwork.l0 k l l.length 0 n l m) r ∧ (r = true ↔ (∀ i : Nat, i < l.length → NodeOk n i (l.getD i z81)) ∧ ∀ i : Nat, i < m.length → 0 ≤ m.getD i 0 ∧ m.getD i 0 < l.length) := by
          refine ev_scanB (g := fun k i => impl_ValidNetwork.l0 k l l.length i n l m) (fun i => NodeOk n i (l.getD i z81)) h5 (fun _ => ?_) (fun i h hp s hs => ?_) (fun i h hp => ?_)
          · refine Ev.step (fun k => by rw [impl_ValidNetwork.l0]) ?_
            exact Ev.iteF (by omega) (Ev.bind h4 (Ev.now _))
          all_goals
            obtain ⟨q, h6, h7⟩ := impl_node n (l.getD i z81) hn (ok_at hx i) i (by omega)
            refine Ev.step (fun k => by rw [impl_ValidNetwork.l0]) ?_
            simp only [rdn]
            refine Ev.iteT (by omega) (Ev.iteT (by omega) (Ev.iteT (by omega) (Ev.bind h6 ?_)))
          · refine Ev.iteT (h7.2 hp) ?_
            rw [w64 (by omega)]
            exact hs
          · exact Ev.iteF (fun h => hp (h7.1 h)) (Ev.now _)
        obtain ⟨s, h6, h7⟩ := hnode
        refine ⟨s, (Ev.bindc rfl (Ev.iteT (by simpa using h1) (Ev.bindc rfl (Ev.iteT (by simpa using h2) (Ev.bindc rfl ?_))))), ?_⟩
        · refine Ev.step (fun k => by rw [impl_ValidNetwork.j0]) (Ev.iteF (by simp; omega) h6)
        · rw [h7]; exact ⟨fun h => ⟨h1, by omega, by omega, h.1, h.2⟩, fun h => ⟨h.node, h.out⟩⟩
      · refine ⟨false, (Ev.bindc rfl (Ev.iteT (by simpa using h1) (Ev.bindc rfl (Ev.iteT (by simpa using h2) (Ev.bindc rfl ?_))))), ?_⟩
        · rw [show (!decide (1 ≤ (m.length : Int) ∧ (m.length : Int) ≤ 8)) = true by rw [decide_eq_false h3]; rfl]; exact hj
        · simp only [Bool.false_eq_true, false_iff]; intro h; have := h.outs; omega
    · refine ⟨false, (Ev.bindc rfl (Ev.iteT (by simpa using h1) (Ev.bindc rfl (Ev.iteF (by simpa using h2) hj)))), ?_⟩
      simp only [Bool.false_eq_true, false_iff]; intro h; have := h.len; omega
  · refine ⟨false, (Ev.bindc rfl (Ev.iteF (by simpa using h1) hj)), ?_⟩
    simp only [Bool.false_eq_true, false_iff]; intro h; have := h.inputs; omega

theorem app_size (a b : ByteArray) : (a ++ b).size = a.size + b.size := ByteArray.size_append
theorem ext_size (a : ByteArray) (n : Nat) : (a.extract 0 n).size = min n a.size := by simp
theorem ext_self (a : ByteArray) (n : Nat) (h : a.size ≤ n) : a.extract 0 n = a := by
  apply ByteArray.ext
  simp only [ByteArray.data_extract]
  rw [Array.extract_eq_self_of_le (by exact h)]
/-- "(" a op b ")" -/
def joined (a b : ByteArray) (o : UInt8) : ByteArray := ((((⟨#[40]⟩ : ByteArray) ++ a) ++ (⟨#[o]⟩ : ByteArray)) ++ b) ++ (⟨#[41]⟩ : ByteArray)
theorem one_size (o : UInt8) : (⟨#[o]⟩ : ByteArray).size = 1 := rfl
theorem joined_size (a b : ByteArray) (o : UInt8) : (joined a b o).size = a.size + b.size + 3 := by
  unfold joined; simp only [app_size, one_size]; omega
def cut (s : ByteArray) : ByteArray := s.extract 0 ((mn (s.size : Int) 201) : Int).toNat
theorem cut_size (s : ByteArray) : (cut s).size = min s.size 201 := by
  unfold cut mn
  rw [ext_size]
  split <;> omega
theorem cut_self (s : ByteArray) (h : s.size ≤ 201) : cut s = s := by
  unfold cut mn
  exact ext_self _ _ (by split <;> omega)
theorem mn_ok (s : ByteArray) : 0 ≤ mn (s.size : Int) 201 ∧ mn (s.size : Int) 201 ≤ (s.size : Int) := by
  unfold mn; split <;> omega
/-- What the loops know of the nodes so far. -/
def FInv (n : Int) (l : List S81) (m : List Int) (i : Nat) (x6 : List ByteArray) : Prop :=
  x6.length = i ∧ ∀ j : Nat, j < i → 1 ≤ (x6.getD j ByteArray.empty).size ∧ (x6.getD j ByteArray.empty).size ≤ 201 ∧ ((x6.getD j ByteArray.empty).size ≤ 200 → Ev (fun k => spec_l04Formula.f k [(⟨n, l, m⟩ : S31)] (j : Int)) (x6.getD j ByteArray.empty))
theorem finv_add {n : Int} {l : List S81} {m : List Int} {i : Nat} {x6 : List ByteArray} (h : FInv n l m i x6) (s : ByteArray) (h1 : 1 ≤ s.size) (h2 : s.size ≤ 201) (h3 : s.size ≤ 200 → Ev (fun k => spec_l04Formula.f k [(⟨n, l, m⟩ : S31)] (i : Int)) s) : FInv n l m (i + 1) (x6 ++ [s]) := by
  obtain ⟨h4, h5⟩ := h
  refine ⟨by simp [h4], fun j hj => ?_⟩
  by_cases hji : j < i
  · rw [show (x6 ++ [s]).getD j ByteArray.empty = x6.getD j ByteArray.empty by rw [List.getD_eq_getElem?_getD, List.getD_eq_getElem?_getD, List.getElem?_append_left (by omega)]]
    exact h5 j hji
  · obtain rfl : j = i := by omega
    rw [show (x6 ++ [s]).getD j ByteArray.empty = s by rw [← h4]; simp]
    exact ⟨h1, h2, h3⟩
theorem letter : ∀ a ∈ ([0, 1, 2, 3, 4, 5] : List Int), (strOfNums (([(IntKind.i16.wrap (97 + a)) % 256] : List Int))) = (⟨#[97, 98, 99, 100, 101, 102]⟩ : ByteArray).extract (a : Int).toNat ((IntKind.i16.wrap (a + 1)) : Int).toNat ∧ ((⟨#[97, 98, 99, 100, 101, 102]⟩ : ByteArray).extract (a : Int).toNat ((IntKind.i16.wrap (a + 1)) : Int).toNat).size = 1 := by decide +kernel
theorem letter_at (a : Int) (h : 0 ≤ a ∧ a < 6) : (strOfNums (([(IntKind.i16.wrap (97 + a)) % 256] : List Int))) = (⟨#[97, 98, 99, 100, 101, 102]⟩ : ByteArray).extract (a : Int).toNat ((IntKind.i16.wrap (a + 1)) : Int).toNat ∧ ((⟨#[97, 98, 99, 100, 101, 102]⟩ : ByteArray).extract (a : Int).toNat ((IntKind.i16.wrap (a + 1)) : Int).toNat).size = 1 := by
  refine letter a ?_
  have : a = 0 ∨ a = 1 ∨ a = 2 ∨ a = 3 ∨ a = 4 ∨ a = 5 := by omega
  rcases this with rfl | rfl | rfl | rfl | rfl | rfl <;> decide
def longOf (x6 : List ByteArray) : List Int := x6.map fun s => (s.size : Int)
theorem long_at (x6 : List ByteArray) (a : Int) (h : 0 ≤ a ∧ a < (x6.length : Int)) : rd (longOf x6) a = ((rdOf ByteArray.empty x6 a).size : Int) := by
  obtain ⟨j, rfl⟩ := Int.eq_ofNat_of_zero_le h.1
  have hj : j < x6.length := by omega
  show (longOf x6).getD j 0 = ((x6.getD j ByteArray.empty).size : Int)
  unfold longOf
  rw [getD_at _ _ _ (by simpa using hj), getD_at _ _ _ hj]
  simp
theorem rdOf_nat (x6 : List ByteArray) (a : Int) (h : 0 ≤ a) : rdOf ByteArray.empty x6 a = x6.getD a.toNat ByteArray.empty := rfl
/-- The joined way: the text is cut and put behind the others. -/
theorem way3 (n : Int) (l : List S81) (m : List Int) (a1 : Int) (i : Nat) (hi : i + 1 ≤ 1048576) (x6 : List ByteArray) (h6 : x6.length ≤ 1048576) (S : ByteArray) {r : ByteArray × Int} (hh : Ev (fun k => impl_FormulaOf.l0 k a1 (x6 ++ [cut S]) l l.length ((i + 1 : Nat) : Int) n l m) r) : Ev (fun k => impl_FormulaOf.j3 k a1 x6 S l l.length (i : Int) n l m) r := by
  have hm := mn_ok S
  have wi : wrap64 ((i : Int) + 1) = ((i + 1 : Nat) : Int) := w64 (by omega)
  refine Ev.step (fun k => by rw [impl_FormulaOf.j3]) ?_
  rw [wi]
  exact Ev.iteT hm.1 (Ev.iteT hm.2 (Ev.iteT (by omega) hh))
theorem way2 (n : Int) (l : List S81) (m : List Int) (a1 : Int) (i : Nat) (hi : i + 1 ≤ 1048576) (x6 : List ByteArray) (h6 : x6.length ≤ 1048576) (S : ByteArray) {r : ByteArray × Int} (hh : Ev (fun k => impl_FormulaOf.l0 k a1 (x6 ++ [cut S]) l l.length ((i + 1 : Nat) : Int) n l m) r) : Ev (fun k => impl_FormulaOf.j2 k a1 x6 S l l.length (i : Int) n l m) r :=
  Ev.step (fun k => by rw [impl_FormulaOf.j2]) (way3 n l m a1 i hi x6 h6 S hh)
theorem way1 (n : Int) (l : List S81) (m : List Int) (a1 : Int) (i : Nat) (hi : i + 1 ≤ 1048576) (x6 : List ByteArray) (h6 : x6.length ≤ 1048576) (S : ByteArray) {r : ByteArray × Int} (hh : Ev (fun k => impl_FormulaOf.l0 k a1 (x6 ++ [cut S]) l l.length ((i + 1 : Nat) : Int) n l m) r) : Ev (fun k => impl_FormulaOf.j1 k a1 x6 S l l.length (i : Int) n l m) r :=
  Ev.step (fun k => by rw [impl_FormulaOf.j1]) (way2 n l m a1 i hi x6 h6 S hh)
/-- The lengths and the texts grow together. -/
theorem step_both (n : Int) (l : List S81) (m : List Int) (hx : ∀ y ∈ l, ok81 y) (h : NetOk n l m) (a1 : Int) (i : Nat) (hi : i < l.length) (x6 : List ByteArray) (hI : FInv n l m i x6) :
    ∃ s, FInv n l m (i + 1) (x6 ++ [s]) ∧ (∀ r, Ev (fun k => spec_l04Long.l0 k [(⟨n, l, m⟩ : S31)] (longOf (x6 ++ [s])) ((i + 1 : Nat) : Int)) r → Ev (fun k => spec_l04Long.l0 k [(⟨n, l, m⟩ : S31)] (longOf x6) (i : Int)) r) ∧
      ∀ r, Ev (fun k => impl_FormulaOf.l0 k a1 (x6 ++ [s]) l l.length ((i + 1 : Nat) : Int) n l m) r → Ev (fun k => impl_FormulaOf.l0 k a1 x6 l l.length (i : Int) n l m) r := by
  have ho := h.node i hi
  have hin := h.inputs
  have hlen := h.len
  obtain ⟨hl6, hI'⟩ := hI
  have hI : FInv n l m i x6 := ⟨hl6, hI'⟩
  obtain ⟨⟨x0, x1, x2⟩, hX⟩ : ∃ x, x = l.getD i z81 := ⟨_, rfl⟩
  rw [← hX] at ho
  have wi : wrap64 ((i : Int) + 1) = ((i + 1 : Nat) : Int) := w64 (by omega)
  have hlf : (longOf x6).length = x6.length := by simp [longOf]
  have happ : ∀ s, longOf (x6 ++ [s]) = longOf x6 ++ [(s.size : Int)] := fun s => by simp [longOf]
  have s1 : ∀ {r}, Ev _ r → Ev (fun k => spec_l04Long.l0 k [(⟨n, l, m⟩ : S31)] (longOf x6) (i : Int)) r := fun {r} hh => Ev.step (fun k => by rw [spec_l04Long.l0]) (by
    simp only [rd0, rdn, ← hX, wi]
    exact Ev.iteT (by simp) (Ev.iteT (by omega) (Ev.iteT (by omega) hh)))
  have s2 : ∀ {r}, Ev _ r → Ev (fun k => impl_FormulaOf.l0 k a1 x6 l l.length (i : Int) n l m) r := fun {r} hh => Ev.step (fun k => by rw [impl_FormulaOf.l0]) (by
    simp only [rdn, ← hX, wi]
    exact Ev.iteT (by omega) (Ev.iteT (by omega) (Ev.iteT (by omega) hh)))
  have s3 : ∀ {r}, Ev _ r → Ev (fun k => spec_l04Formula.f k [(⟨n, l, m⟩ : S31)] (i : Int)) r := fun {r} hh => Ev.step (fun k => by rw [spec_l04Formula.f]) (by
    simp only [rd0, rdn, ← hX]
    exact Ev.iteT (by simp) (Ev.iteT (by omega) (Ev.iteT (by omega) hh)))
  rcases ho with ⟨rfl, b1, b2, b3⟩ | ⟨rfl, b1, b2⟩ | ⟨b0, b1, b2, b3, b4⟩
  · try dsimp only at b1 b2
    have hL := letter_at x1 ⟨b1, by omega⟩
    have w1 : IntKind.i16.wrap (x1 + 1) = x1 + 1 := w16 (by omega)
    obtain ⟨S, hS⟩ : ∃ S, S = (⟨#[97, 98, 99, 100, 101, 102]⟩ : ByteArray).extract (x1 : Int).toNat ((IntKind.i16.wrap (x1 + 1)) : Int).toNat := ⟨_, rfl⟩
    rw [← hS] at hL
    refine ⟨S, finv_add hI S (by omega) (by omega) fun _ => s3 (Ev.iteT rfl (by rw [hL.1]; exact Ev.now _)), fun r hh => s1 (Ev.iteF (by (try dsimp only); omega) (Ev.iteT (by omega) ?_)), fun r hh => s2 (Ev.iteT rfl ?_)⟩
    · rw [happ, hL.2] at hh
      exact hh
    · simp only [← hS]
      exact Ev.iteT b1 (Ev.iteT (by (try dsimp only); omega) (Ev.iteT (by (try dsimp only); omega) (way3 n l m a1 i (by omega) x6 (by omega) S (by rw [cut_self S (by omega)]; exact hh))))
  · refine ⟨⟨#[49]⟩, finv_add hI _ (by decide) (by decide) fun _ => s3 (Ev.iteF (by simp) (Ev.iteT rfl (Ev.now _))), fun r hh => s1 (Ev.iteF (by simp) (Ev.iteT (by omega) ?_)), fun r hh => s2 (Ev.iteF (by simp) (Ev.iteF (by simp) (Ev.iteF (by simp) (way1 n l m a1 i (by omega) x6 (by omega) _ ?_))))⟩
    · rw [happ] at hh
      exact hh
    · rw [show cut (⟨#[49]⟩ : ByteArray) = ⟨#[49]⟩ from by decide +kernel]
      exact hh
  · try dsimp only at b0 b1 b2 b3 b4
    obtain ⟨p, rfl⟩ := Int.eq_ofNat_of_zero_le b1
    obtain ⟨q, rfl⟩ := Int.eq_ofNat_of_zero_le b3
    obtain ⟨A1, A2, A3⟩ := hI' p (by omega)
    obtain ⟨B1, B2, B3⟩ := hI' q (by omega)
    have e1 : rdOf ByteArray.empty x6 (p : Int) = x6.getD p ByteArray.empty := rfl
    have e2 : rdOf ByteArray.empty x6 (q : Int) = x6.getD q ByteArray.empty := rfl
    obtain ⟨A, hA⟩ : ∃ A, A = x6.getD p ByteArray.empty := ⟨_, rfl⟩
    obtain ⟨B, hB⟩ : ∃ B, B = x6.getD q ByteArray.empty := ⟨_, rfl⟩
    rw [← hA] at A1 A2 A3 e1
    rw [← hB] at B1 B2 B3 e2
    have r1 := long_at x6 p ⟨by omega, by omega⟩
    have r2 := long_at x6 q ⟨by omega, by omega⟩
    rw [e1] at r1
    rw [e2] at r2
    have hmin : spec_l00Min.f 201 (wrap64 (wrap64 (3 + rd (longOf x6) (p : Int)) + rd (longOf x6) (q : Int))) = some (min 201 ((A.size : Int) + (B.size : Int) + 3)) := by
      rw [r1, r2, w64 (n := 3 + (A.size : Int)) (by omega), w64 (by omega)]
      unfold spec_l00Min.f
      split
      · congr 1; omega
      · congr 1; omega
    have hc : ∀ o, ((cut (joined A B o)).size : Int) = min 201 ((A.size : Int) + (B.size : Int) + 3) := fun o => by rw [cut_size, joined_size]; omega
    have lspec : ∀ o r, Ev (fun k => spec_l04Long.l0 k [(⟨n, l, m⟩ : S31)] (longOf (x6 ++ [cut (joined A B o)])) ((i + 1 : Nat) : Int)) r → Ev (fun k => spec_l04Long.l0 k [(⟨n, l, m⟩ : S31)] (longOf x6) (i : Int)) r := fun o r hh => by
      rw [happ, hc] at hh
      exact s1 (Ev.iteT (by (try dsimp only); omega) (Ev.iteT (by (try dsimp only); omega) (Ev.iteT (by (try dsimp only); omega) (Ev.iteT (by (try dsimp only); omega) (Ev.iteT (by (try dsimp only); omega) (Ev.bindc hmin (Ev.iteT (by omega) hh)))))))
    have fin : ∀ o, (cut (joined A B o)).size ≤ 200 → A.size ≤ 200 ∧ B.size ≤ 200 ∧ cut (joined A B o) = joined A B o := fun o hh => by
      rw [cut_size, joined_size] at hh
      exact ⟨by omega, by omega, cut_self _ (by rw [joined_size]; omega)⟩
    rcases b0 with rfl | rfl
    · refine ⟨cut (joined A B 124), finv_add hI _ (by rw [cut_size, joined_size]; omega) (by rw [cut_size]; omega) fun hh => ?_, lspec 124, fun r hh => s2 (Ev.iteF (by simp) (Ev.iteT rfl ?_))⟩
      · obtain ⟨f1, f2, f3⟩ := fin 124 hh
        rw [f3]
        refine s3 (Ev.iteF (by simp) (Ev.iteF (by simp) (Ev.iteT rfl (Ev.bind (A3 f1) (Ev.iteT (by omega) (Ev.iteT (by omega) (Ev.bind (B3 f2) (Ev.iteT (by omega) (Ev.iteT (by omega) (Ev.now _)))))))))) 
      · try dsimp only
        rw [e1, e2]
        exact Ev.iteT b1 (Ev.iteT (by omega) (Ev.iteT (by omega) (Ev.iteT (by omega) (Ev.iteT b3 (Ev.iteT (by omega) (Ev.iteT (by omega) (Ev.iteT (by omega) (way2 n l m a1 i (by omega) x6 (by omega) (joined A B 124) hh))))))))
    · refine ⟨cut (joined A B 45), finv_add hI _ (by rw [cut_size, joined_size]; omega) (by rw [cut_size]; omega) fun hh => ?_, lspec 45, fun r hh => s2 (Ev.iteF (by simp) (Ev.iteF (by simp) (Ev.iteT rfl ?_)))⟩
      · obtain ⟨f1, f2, f3⟩ := fin 45 hh
        rw [f3]
        refine s3 (Ev.iteF (by simp) (Ev.iteF (by simp) (Ev.iteF (by simp) (Ev.bind (A3 f1) (Ev.iteT (by omega) (Ev.iteT (by omega) (Ev.bind (B3 f2) (Ev.iteT (by omega) (Ev.iteT (by omega) (Ev.now _))))))))))
      · try dsimp only
        rw [e1, e2]
        exact Ev.iteT b1 (Ev.iteT (by omega) (Ev.iteT (by omega) (Ev.iteT (by omega) (Ev.iteT b3 (Ev.iteT (by omega) (Ev.iteT (by omega) (Ev.iteT (by omega) (way1 n l m a1 i (by omega) x6 (by omega) (joined A B 45) hh))))))))
theorem core (x0_0 : Int) (x0_1 : List (S81)) (x0_2 : List (Int)) (x1 : Int) (ox0_0 : (-128 ≤ x0_0 ∧ x0_0 ≤ 127)) (ox0_1 : ∀ y ∈ x0_1, ok81 y) (nx0_1 : x0_1.length ≤ 1048576) (ox0_2 : ∀ y ∈ x0_2, (-32768 ≤ y ∧ y ≤ 32767)) (nx0_2 : x0_2.length ≤ 1048576) (ox1 : (-9223372036854775808 ≤ x1 ∧ x1 ≤ 9223372036854775807)) : ∃ r : ByteArray × Int, Ev (fun k => spec_FormulaOf.f k x0_0 x0_1 x0_2 x1) r ∧ Ev (fun k => impl_FormulaOf.f k x0_0 x0_1 x0_2 x1) r ∧ True := by
  obtain ⟨r, h1, h2⟩ := spec_ok x0_0 x0_1 x0_2 ox0_0 ox0_1 nx0_1 ox0_2 nx0_2
  obtain ⟨q, h3, h4⟩ := impl_ok x0_0 x0_1 x0_2 ox0_0 ox0_1 nx0_1 ox0_2 nx0_2
  obtain rfl := bool_same h2 h4
  unfold spec_FormulaOf.f impl_FormulaOf.f
  cases r
  · exact ⟨(⟨#[]⟩, 1), Ev.bind h1 (Ev.iteF (by simp) (Ev.now _)), Ev.bind h3 (Ev.iteF (by simp) (Ev.now _)), trivial⟩
  have h := h2.1 rfl
  have hlen := h.len
  have houts := h.outs
  have i2 : impl_in.f x1 0 (wrap64 ((x0_2.length : Int) - 1)) = some (decide (0 ≤ x1 ∧ x1 ≤ (x0_2.length : Int) - 1)) := by rw [in_some, w64 (by omega)]
  have i1 : spec_l00In.f x1 0 (wrap64 ((x0_2.length : Int) - 1)) = some (decide (0 ≤ x1 ∧ x1 ≤ (x0_2.length : Int) - 1)) := by rw [in_same]; exact i2
  by_cases hin : 0 ≤ x1 ∧ x1 ≤ (x0_2.length : Int) - 1
  · obtain ⟨o, rfl⟩ := Int.eq_ofNat_of_zero_le hin.1
    have ho := h.out o (by omega)
    suffices key : ∃ x6, FInv x0_0 x0_1 x0_2 x0_1.length x6 ∧ Ev (fun k => spec_l04Long.f k [(⟨x0_0, x0_1, x0_2⟩ : S31)]) (longOf x6) ∧ ∀ r, Ev (fun k => impl_FormulaOf.l0 k (o : Int) x6 x0_1 x0_1.length (x0_1.length : Int) x0_0 x0_1 x0_2) r → Ev (fun k => impl_FormulaOf.l0 k (o : Int) [] x0_1 x0_1.length 0 x0_0 x0_1 x0_2) r by
      obtain ⟨x6, hI, k1, k2⟩ := key
      obtain ⟨p, hp⟩ := Int.eq_ofNat_of_zero_le ho.1
      have hro : rd x0_2 (o : Int) = (p : Int) := hp
      rw [hp] at ho
      obtain ⟨c1, c2, c3⟩ := hI.2 p (by omega)
      have hl6 := hI.1
      have hlf : (longOf x6).length = x6.length := by simp [longOf]
      have hr := long_at x6 (p : Int) ⟨by omega, by omega⟩
      have er : rdOf ByteArray.empty x6 (p : Int) = x6.getD p ByteArray.empty := rfl
      rw [er] at hr
      by_cases hs : (x6.getD p ByteArray.empty).size ≤ 200
      · refine ⟨(x6.getD p ByteArray.empty, 0), Ev.bind h1 (Ev.iteT rfl (Ev.bindc i1 (Ev.iteT (decide_eq_true hin) (Ev.bind k1 ?_)))), Ev.bind h3 (Ev.iteT rfl (Ev.bindc i2 (Ev.iteT (decide_eq_true hin) (k2 _ ?_)))), trivial⟩
        · rw [hro, hr]
          exact Ev.iteT (by omega) (Ev.iteT (by omega) (Ev.iteT (by omega) (Ev.iteT (by omega) (Ev.iteF (by omega) (Ev.bind (c3 hs) (Ev.now _))))))
        · refine Ev.step (fun k => by rw [impl_FormulaOf.l0]) ?_
          rw [hro, er]
          exact Ev.iteF (by omega) (Ev.iteT (by omega) (Ev.iteT (by omega) (Ev.iteT (by omega) (Ev.iteT (by omega) (Ev.iteF (by omega) (Ev.now _))))))
      · refine ⟨(⟨#[]⟩, 3), Ev.bind h1 (Ev.iteT rfl (Ev.bindc i1 (Ev.iteT (decide_eq_true hin) (Ev.bind k1 ?_)))), Ev.bind h3 (Ev.iteT rfl (Ev.bindc i2 (Ev.iteT (decide_eq_true hin) (k2 _ ?_)))), trivial⟩
        · rw [hro, hr]
          exact Ev.iteT (by omega) (Ev.iteT (by omega) (Ev.iteT (by omega) (Ev.iteT (by omega) (Ev.iteT (by omega) (Ev.now _)))))
        · refine Ev.step (fun k => by rw [impl_FormulaOf.l0]) ?_
          rw [hro, er]
          exact Ev.iteF (by omega) (Ev.iteT (by omega) (Ev.iteT (by omega) (Ev.iteT (by omega) (Ev.iteT (by omega) (Ev.iteT (by omega) (Ev.now _))))))
    have go : ∀ d, d ≤ x0_1.length → ∀ x6, FInv x0_0 x0_1 x0_2 (x0_1.length - d) x6 → ∃ y6, FInv x0_0 x0_1 x0_2 x0_1.length y6 ∧ (∀ r, Ev (fun k => spec_l04Long.l0 k [(⟨x0_0, x0_1, x0_2⟩ : S31)] (longOf y6) (x0_1.length : Int)) r → Ev (fun k => spec_l04Long.l0 k [(⟨x0_0, x0_1, x0_2⟩ : S31)] (longOf x6) ((x0_1.length - d : Nat) : Int)) r) ∧
        ∀ r, Ev (fun k => impl_FormulaOf.l0 k (o : Int) y6 x0_1 x0_1.length (x0_1.length : Int) x0_0 x0_1 x0_2) r → Ev (fun k => impl_FormulaOf.l0 k (o : Int) x6 x0_1 x0_1.length ((x0_1.length - d : Nat) : Int) x0_0 x0_1 x0_2) r := by
      intro d
      induction d with
      | zero => intro _ x6 hx; exact ⟨x6, hx, fun r h => h, fun r h => h⟩
      | succ d ih =>
        intro hd x6 hx
        obtain ⟨s, t1, t2, t3⟩ := step_both x0_0 x0_1 x0_2 ox0_1 h (o : Int) (x0_1.length - (d + 1)) (by omega) x6 hx
        rw [show x0_1.length - (d + 1) + 1 = x0_1.length - d by omega] at t1 t2 t3
        obtain ⟨y6, u1, u2, u3⟩ := ih (by omega) _ t1
        exact ⟨y6, u1, fun r h => t2 r (u2 r h), fun r h => t3 r (u3 r h)⟩
    obtain ⟨x6, g1, g2, g3⟩ := go x0_1.length (Nat.le_refl _) [] ⟨by simp, fun j hj => by omega⟩
    rw [Nat.sub_self] at g2 g3
    refine ⟨x6, g1, ?_, g3⟩
    unfold spec_l04Long.f
    refine g2 _ (Ev.step (fun k => by rw [spec_l04Long.l0]) ?_)
    simp only [rd0]
    exact Ev.iteT (by simp) (Ev.iteF (by omega) (Ev.now _))
  · exact ⟨(⟨#[]⟩, 2), Ev.bind h1 (Ev.iteT rfl (Ev.bindc i1 (Ev.iteF (by rw [decide_eq_false hin]; decide) (Ev.now _)))), Ev.bind h3 (Ev.iteT rfl (Ev.bindc i2 (Ev.iteF (by rw [decide_eq_false hin]; decide) (Ev.now _)))), trivial⟩

theorem FnExactFormulaOf : QFnExactFormulaOf.Pure := by
  rintro ⟨x0_0, x0_1, x0_2⟩ x1 ⟨wx0_0, wx0_1, wx0_2⟩ wx1
  have ox0_0 : (-128 ≤ x0_0 ∧ x0_0 ≤ 127) := i8b wx0_0
  obtain ⟨wx0_1, mx0_1⟩ := wx0_1
  have mx0_1 : x0_1.length ≤ 9223372036854775807 := mx0_1
  obtain ⟨wx0_2, mx0_2⟩ := wx0_2
  have mx0_2 : x0_2.length ≤ 9223372036854775807 := mx0_2
  have ox1 : (-9223372036854775808 ≤ x1 ∧ x1 ≤ 9223372036854775807) := i64b wx1
  refine Ev.rounds (r := true) ?_
  unfold laws_FnExactFormulaOf.f
  obtain ⟨r_0, e_0, c_0⟩ := szNetwork x0_0 x0_1 x0_2 (1048576) (by omega) mx0_1 mx0_2
  refine Ev.bindc e_0 ?_
  rcases c_0 with c_0 | ⟨rfl, c_0⟩
  · exact Ev.iteT c_0 (Ev.now _)
  refine Ev.iteF (by omega) ?_
  refine Ev.bind (toNetwork _ _ _ (by first | omega | ((try dsimp only); (try simp only [List.length_map, List.length_range, List.length_nil]); omega) | (simp; omega)) (by first | omega | ((try dsimp only); (try simp only [List.length_map, List.length_range, List.length_nil]); omega) | (simp; omega))) ?_
  try dsimp only
  obtain ⟨⟨r0, r1⟩, hs, hi, hb⟩ := core x0_0 (x0_1.map cv131_81) x0_2 x1 ox0_0 (fun y hy => by obtain ⟨z, hz, rfl⟩ := List.mem_map.1 hy; exact okof131_81 (wx0_1 z hz)) (by first | omega | ((try dsimp only); (try simp only [List.length_map, List.length_range, List.length_nil]); omega) | (simp; omega)) (fun y hy => (i16b (wx0_2 y hy))) (by first | omega | ((try dsimp only); (try simp only [List.length_map, List.length_range, List.length_nil]); omega) | (simp; omega)) ox1
  refine Ev.bind hs ?_
  try dsimp only
  refine Ev.bind (toNetwork _ _ _ (by first | omega | ((try dsimp only); (try simp only [List.length_map, List.length_range, List.length_nil]); omega) | (simp; omega)) (by first | omega | ((try dsimp only); (try simp only [List.length_map, List.length_range, List.length_nil]); omega) | (simp; omega))) ?_
  try dsimp only
  refine Ev.bind hi ?_
  try dsimp only
  refine Ev.iteT (by first | rfl | (first | omega | ((try dsimp only); (try simp only [List.length_map, List.length_range, List.length_nil]); omega) | (simp; omega))) ?_
  try dsimp only
  refine Ev.iteT (by first | rfl | (first | omega | ((try dsimp only); (try simp only [List.length_map, List.length_range, List.length_nil]); omega) | (simp; omega))) ?_
  try dsimp only
  refine Ev.bind (toNetwork _ _ _ (by first | omega | ((try dsimp only); (try simp only [List.length_map, List.length_range, List.length_nil]); omega) | (simp; omega)) (by first | omega | ((try dsimp only); (try simp only [List.length_map, List.length_range, List.length_nil]); omega) | (simp; omega))) ?_
  try dsimp only
  refine Ev.bind (eqNetwork _ _ _ (by first | omega | ((try dsimp only); (try simp only [List.length_map, List.length_range, List.length_nil]); omega) | (simp; omega)) (by first | omega | ((try dsimp only); (try simp only [List.length_map, List.length_range, List.length_nil]); omega) | (simp; omega))) ?_
  try dsimp only
  refine Ev.iteT (by first | rfl | (first | omega | ((try dsimp only); (try simp only [List.length_map, List.length_range, List.length_nil]); omega) | (simp; omega))) ?_
  try dsimp only
  exact Ev.now _
end Go.Proofs.Ytmpmanfoiocfgaa.Pure
