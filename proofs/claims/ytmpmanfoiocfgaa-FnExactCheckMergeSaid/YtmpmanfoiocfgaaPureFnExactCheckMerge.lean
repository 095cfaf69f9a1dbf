/- The pure side of the law FnExactCheckMerge: for all arguments its Lean function answers true. No condition beside the arguments' kinds. -/
import Derived.Test.YtmpmanfoiocfgaaQFnExactCheckMerge
import Derived.Test.YtmpmanfoiocfgaaTFnExactCheckMergea
namespace Go.Proofs.Ytmpmanfoiocfgaa.Pure
open Go.RowKit Go.Proofs.Ytmpmanfoiocfgaa.PFnExactCheckMerge Go.Proofs.YtmpmanfoiocfgaaW.PrintWords Go.Proofs.YtmpmanfoiocfgaaW.PrintLast Go.Proofs.YtmpmanfoiocfgaaX Go.Proofs.Ytmpmanfoiocfgaa.QFnExactCheckMerge Go.Proofs.YtmpmanfoiocfgaaB
set_option linter.unusedVariables false
set_option linter.unusedSimpArgs false

theorem szNodeS (l0 : List (S131)) (a_ : Int) (ha : 0 ≤ a_ ∧ a_ ≤ 1048576) (hl0 : l0.length ≤ 9223372036854775807) : ∃ r, laws_szNodeS.f l0 a_ = some r ∧ (r < 0 ∨ (r = a_ - l0.length ∧ 0 ≤ r)) := by
  unfold laws_szNodeS.f
  rw [w64 (n := a_ - l0.length) (by omega)]
  by_cases h : a_ - (l0.length : Int) < 0
  · exact ⟨-1, by rw [if_pos h], .inl (by omega)⟩
  · exact ⟨_, by rw [if_neg h], .inr ⟨rfl, by omega⟩⟩
theorem szInt16S (l0 : List (Int)) (a_ : Int) (ha : 0 ≤ a_ ∧ a_ ≤ 1048576) (hl0 : l0.length ≤ 9223372036854775807) : ∃ r, laws_szInt16S.f l0 a_ = some r ∧ (r < 0 ∨ (r = a_ - l0.length ∧ 0 ≤ r)) := by
  unfold laws_szInt16S.f
  rw [w64 (n := a_ - l0.length) (by omega)]
  by_cases h : a_ - (l0.length : Int) < 0
  · exact ⟨-1, by rw [if_pos h], .inl (by omega)⟩
  · exact ⟨_, by rw [if_neg h], .inr ⟨rfl, by omega⟩⟩
theorem szNetwork (a0_0 : Int) (l0_1 : List (S131)) (l0_2 : List (Int)) (a_ : Int) (ha : 0 ≤ a_ ∧ a_ ≤ 1048576) (hl0_1 : l0_1.length ≤ 9223372036854775807) (hl0_2 : l0_2.length ≤ 9223372036854775807) : ∃ r, laws_szNetwork.f a0_0 l0_1 l0_2 a_ = some r ∧ (r < 0 ∨ (r = a_ - l0_1.length - l0_2.length ∧ 0 ≤ r)) := by
  unfold laws_szNetwork.f
  obtain ⟨r0, e0, c0⟩ := szNodeS l0_1 (a_) (by omega) hl0_1
  rw [e0]
  simp only [Option.bind_some]
  rcases c0 with c0 | ⟨rfl, c0⟩
  · exact ⟨-1, by rw [if_pos c0], .inl (by omega)⟩
  rw [if_neg (by omega)]
  obtain ⟨r1, e1, c1⟩ := szInt16S l0_2 (a_ - l0_1.length) (by omega) hl0_2
  rw [e1]
  simp only [Option.bind_some]
  rcases c1 with c1 | ⟨rfl, c1⟩
  · exact ⟨-1, by rw [if_pos c1], .inl (by omega)⟩
  rw [if_neg (by omega)]
  exact ⟨_, rfl, .inr ⟨rfl, by omega⟩⟩
theorem toNode (a0_0 : Int) (a0_1 : Int) (a0_2 : Int)  : laws_toNode.f a0_0 a0_1 a0_2 = some (a0_0, a0_1, a0_2) := by
  unfold laws_toNode.f
  simp
def cv131_81 (x : S131) : S81 := ⟨x.f0, x.f1, x.f2⟩
theorem toNodeS (l0 : List (S131)) (hl0 : l0.length ≤ 1099511627776) : Ev (fun k => laws_toNodeS.f k l0) (l0.map cv131_81) := by
  suffices main : Ev (fun k => laws_toNodeS.f k l0) (l0.map cv131_81) by exact main
  unfold laws_toNodeS.f
  refine Ev.iteT (by omega) (Ev.iteT (by omega) ?_)
  rw [Int.toNat_natCast]
  refine ev_fill2 (g := fun k x i => laws_toNodeS.l0 k l0 x i) cv131_81 l0 _ (Ev.step (f := fun _ => some _) (fun k => by simp [laws_toNodeS.l0]) (Ev.now _)) fun i h x hx ih => ?_
  have eg : l0.getD i z131 = l0[i] := getD_at _ _ _ h
  refine Ev.step (fun k => by rw [laws_toNodeS.l0]) (Ev.iteT (by omega) (Ev.iteT (by omega) ?_))
  simp only [rd_T131, Int.toNat_natCast, eg]
  refine Ev.bindc (toNode _ _ _ ) ?_
  refine Ev.iteT (by omega) ?_
  rw [w64 (by omega)]
  exact ih
theorem toInt16S (l0 : List (Int)) (hl0 : l0.length ≤ 1099511627776) : Ev (fun k => laws_toInt16S.f k l0) l0 := by
  suffices main : Ev (fun k => laws_toInt16S.f k l0) (l0.map id) by rwa [List.map_id] at main
  unfold laws_toInt16S.f
  refine Ev.iteT (by omega) (Ev.iteT (by omega) ?_)
  rw [Int.toNat_natCast]
  refine ev_fill2 (g := fun k x i => laws_toInt16S.l0 k l0 x i) id l0 _ (Ev.step (f := fun _ => some _) (fun k => by simp [laws_toInt16S.l0]) (Ev.now _)) fun i h x hx ih => ?_
  have eg : l0.getD i (0 : Int) = l0[i] := getD_at _ _ _ h
  refine Ev.step (fun k => by rw [laws_toInt16S.l0]) (Ev.iteT (by omega) (Ev.iteT (by omega) ?_))
  simp only [rd, Int.toNat_natCast, eg]
  refine Ev.iteT (by omega) ?_
  rw [w64 (by omega)]
  exact ih
theorem toNetwork (a0_0 : Int) (l0_1 : List (S131)) (l0_2 : List (Int)) (hl0_1 : l0_1.length ≤ 1099511627776) (hl0_2 : l0_2.length ≤ 1099511627776) : Ev (fun k => laws_toNetwork.f k a0_0 l0_1 l0_2) (a0_0, (l0_1.map cv131_81), l0_2) := by
  unfold laws_toNetwork.f
  exact (Ev.bind (toNodeS _ (by first | omega | ((try dsimp only); (try simp only [List.length_map, List.length_range, List.length_nil]); omega) | (simp; omega))) (Ev.bind (toInt16S _ (by first | omega | ((try dsimp only); (try simp only [List.length_map, List.length_range, List.length_nil]); omega) | (simp; omega))) (Ev.now _)))
theorem eqNode (a0_0 : Int) (a0_1 : Int) (a0_2 : Int)  : laws_eqNode.f a0_0 a0_1 a0_2 a0_0 a0_1 a0_2 = some true := by
  unfold laws_eqNode.f
  simp
theorem eqNodeS (l0 : List (S81)) (hl0 : l0.length ≤ 1099511627776) : Ev (fun k => laws_eqNodeS.f k l0 l0) true := by
  unfold laws_eqNodeS.f
  refine Ev.iteT rfl ?_
  refine ev_loop2 (g := fun k i => laws_eqNodeS.l0 k l0 l0 i) (fun i => (i : Int)) l0.length (Ev.step (f := fun _ => some _) (fun k => by simp [laws_eqNodeS.l0]) (Ev.now _)) fun i h ih => ?_
  refine Ev.step (fun k => by rw [laws_eqNodeS.l0]) (Ev.iteT (by omega) (Ev.iteT (by omega) (Ev.iteT (by omega) ?_)))
  refine Ev.bindc (eqNode _ _ _ ) (Ev.iteT rfl ?_)
  rw [w64 (by omega)]
  exact ih
theorem eqInt16S (l0 : List (Int)) (hl0 : l0.length ≤ 1099511627776) : Ev (fun k => laws_eqInt16S.f k l0 l0) true := by
  unfold laws_eqInt16S.f
  refine Ev.iteT rfl ?_
  refine ev_loop2 (g := fun k i => laws_eqInt16S.l0 k l0 l0 i) (fun i => (i : Int)) l0.length (Ev.step (f := fun _ => some _) (fun k => by simp [laws_eqInt16S.l0]) (Ev.now _)) fun i h ih => ?_
  refine Ev.step (fun k => by rw [laws_eqInt16S.l0]) (Ev.iteT (by omega) (Ev.iteT (by omega) (Ev.iteT (by omega) ?_)))
  refine Ev.iteT rfl ?_
  rw [w64 (by omega)]
  exact ih
theorem eqNetwork (a0_0 : Int) (l0_1 : List (S81)) (l0_2 : List (Int)) (hl0_1 : l0_1.length ≤ 1099511627776) (hl0_2 : l0_2.length ≤ 1099511627776) : Ev (fun k => laws_eqNetwork.f k a0_0 l0_1 l0_2 a0_0 l0_1 l0_2) true := by
  unfold laws_eqNetwork.f
  exact (Ev.iteT rfl (Ev.bind (eqNodeS _ (by first | omega | ((try dsimp only); (try simp only [List.length_map, List.length_range, List.length_nil]); omega) | (simp; omega))) (Ev.iteT rfl (Ev.bind (eqInt16S _ (by first | omega | ((try dsimp only); (try simp only [List.length_map, List.length_range, List.length_nil]); omega) | (simp; omega))) (Ev.iteT rfl (Ev.now _))))))
theorem toInt64S (l0 : List (Int)) (hl0 : l0.length ≤ 1099511627776) : Ev (fun k => laws_toInt64S.f k l0) l0 := by
  suffices main : Ev (fun k => laws_toInt64S.f k l0) (l0.map id) by rwa [List.map_id] at main
  unfold laws_toInt64S.f
  refine Ev.iteT (by omega) (Ev.iteT (by omega) ?_)
  rw [Int.toNat_natCast]
  refine ev_fill2 (g := fun k x i => laws_toInt64S.l0 k l0 x i) id l0 _ (Ev.step (f := fun _ => some _) (fun k => by simp [laws_toInt64S.l0]) (Ev.now _)) fun i h x hx ih => ?_
  have eg : l0.getD i (0 : Int) = l0[i] := getD_at _ _ _ h
  refine Ev.step (fun k => by rw [laws_toInt64S.l0]) (Ev.iteT (by omega) (Ev.iteT (by omega) ?_))
  simp only [rd, Int.toNat_natCast, eg]
  refine Ev.iteT (by omega) ?_
  rw [w64 (by omega)]
  exact ih
theorem eqInt64S (l0 : List (Int)) (hl0 : l0.length ≤ 1099511627776) : Ev (fun k => laws_eqInt64S.f k l0 l0) true := by
  unfold laws_eqInt64S.f
  refine Ev.iteT rfl ?_
  refine ev_loop2 (g := fun k i => laws_eqInt64S.l0 k l0 l0 i) (fun i => (i : Int)) l0.length (Ev.step (f := fun _ => some _) (fun k => by simp [laws_eqInt64S.l0]) (Ev.now _)) fun i h ih => ?_
  refine Ev.step (fun k => by rw [laws_eqInt64S.l0]) (Ev.iteT (by omega) (Ev.iteT (by omega) (Ev.iteT (by omega) ?_)))
  refine Ev.iteT rfl ?_
  rw [w64 (by omega)]
  exact ih
def ok81 (x : S81) : Prop := (-128 ≤ x.f0 ∧ x.f0 ≤ 127) ∧ (-32768 ≤ x.f1 ∧ x.f1 ≤ 32767) ∧ (-32768 ≤ x.f2 ∧ x.f2 ≤ 32767)
theorem okof131_81 {x : S131} (h : wf131 x) : ok81 (cv131_81 x) := by
  obtain ⟨h0, h1, h2⟩ := h
  exact ⟨(i8b h0), (i16b h1), (i16b h2)⟩
/-- What a node at place j may be, of a network with n inputs. -/
def NodeOk (n j : Int) (x : S81) : Prop := (x.f0 = 0 ∧ 0 ≤ x.f1 ∧ x.f1 < n ∧ x.f2 = 0) ∨ (x.f0 = 1 ∧ x.f1 = 0 ∧ x.f2 = 0) ∨ ((x.f0 = 2 ∨ x.f0 = 3) ∧ 0 ≤ x.f1 ∧ x.f1 < j ∧ 0 ≤ x.f2 ∧ x.f2 < j)
structure NetOk (n : Int) (l : List (S81)) (m : List Int) : Prop where
  inputs : 1 ≤ n ∧ n ≤ 6
  len : 1 ≤ l.length ∧ l.length ≤ 80
  outs : 1 ≤ m.length ∧ m.length ≤ 8
  node : ∀ i : Nat, i < l.length → NodeOk n i (l.getD i z81)
  out : ∀ i : Nat, i < m.length → 0 ≤ m.getD i 0 ∧ m.getD i 0 < l.length
theorem in_same : spec_l00In.f = impl_in.f := rfl
theorem in_some (a b c : Int) : impl_in.f a b c = some (decide (b ≤ a ∧ a ≤ c)) := by
  unfold impl_in.f
  by_cases h : b ≤ a <;> simp [h]
theorem rd0 (n : Int) (l : List (S81)) (m : List Int) : rd_T31 [(⟨n, l, m⟩ : S31)] 0 = ⟨n, l, m⟩ := id rfl
theorem rdn (l : List (S81)) (i : Nat) : rd_T81 l (i : Int) = l.getD i z81 := id rfl
theorem rdi (l : List Int) (i : Nat) : rd l (i : Int) = l.getD i 0 := id rfl
theorem ok_at {l : List (S81)} (h : ∀ y ∈ l, ok81 y) (i : Nat) : ok81 (l.getD i z81) := by
  by_cases hi : i < l.length
  · rw [getD_at _ _ _ hi]; exact h _ (List.getElem_mem hi)
  · rw [List.getD_eq_getElem?_getD, List.getElem?_eq_none (by omega)]; simp [ok81, z81]
theorem i16_at {l : List Int} (h : ∀ y ∈ l, -32768 ≤ y ∧ y ≤ 32767) (i : Nat) : -32768 ≤ l.getD i 0 ∧ l.getD i 0 ≤ 32767 := by
  by_cases hi : i < l.length
  · rw [getD_at _ _ _ hi]; exact h _ (List.getElem_mem hi)
  · rw [List.getD_eq_getElem?_getD, List.getElem?_eq_none (by omega)]; simp
theorem spec_node (n : Int) (l : List (S81)) (m : List Int) (hn : -128 ≤ n ∧ n ≤ 127) (hx : ∀ y ∈ l, ok81 y) (i : Nat) (hi : i < l.length) :
    ∃ r, spec_l04Node.f [(⟨n, l, m⟩ : S31)] i = some r ∧ (r = true ↔ NodeOk n i (l.getD i z81)) := by
  have hb := ok_at hx i
  obtain ⟨⟨x0, x1, x2⟩, hX⟩ : ∃ x, x = l.getD i z81 := ⟨_, rfl⟩
  unfold spec_l04Node.f NodeOk
  simp only [rd0, rdn]
  rw [← hX] at hb ⊢
  obtain ⟨b0, b1, b2⟩ := hb
  dsimp only at b0 b1 b2 ⊢
  rw [if_pos (by simp), if_pos (by omega), if_pos (by omega), w16 (n := n) (by omega), w64 (n := x1) (by omega), w64 (n := x2) (by omega)]
  by_cases h0 : x0 = 0
  · subst h0
    by_cases h1 : x1 ≥ 0 <;> by_cases h2 : x1 < n <;> simp [h1, h2] <;> omega
  · by_cases h1 : x0 = 1
    · subst h1
      by_cases h2 : x1 = 0 <;> simp [h2]
    · by_cases h2 : x0 = 2
      · subst h2
        by_cases h3 : x1 ≥ 0 <;> by_cases h4 : x1 < (i : Int) <;> by_cases h5 : x2 ≥ 0 <;> simp [h3, h4, h5] <;> omega
      · by_cases h2 : x0 = 3
        · subst h2
          by_cases h3 : x1 ≥ 0 <;> by_cases h4 : x1 < (i : Int) <;> by_cases h5 : x2 ≥ 0 <;> simp [h3, h4, h5] <;> omega
        · exact ⟨false, by simp [*], by simp; omega⟩
theorem impl_node (n : Int) (x : S81) (hn : -128 ≤ n ∧ n ≤ 127) (hx : ok81 x) (i : Nat) (hi : i ≤ 1048576) :
    ∃ r, Ev (fun k => impl_Node_ok.f k x.f0 x.f1 x.f2 (wrap64 n) i) r ∧ (r = true ↔ NodeOk n i x) := by
  obtain ⟨x0, x1, x2⟩ := x
  obtain ⟨b0, b1, b2⟩ := hx
  unfold impl_Node_ok.f NodeOk
  dsimp only at b0 b1 b2 ⊢
  rw [w64 (n := n) (by omega), w64 (n := x1) (by omega), w64 (n := x2) (by omega), w64 (n := n - 1) (by omega)]
  have hj : ∀ b, Ev (fun k => impl_Node_ok.j0 k i x1 x2 b) (b && (decide (0 ≤ x1 ∧ x1 ≤ (i : Int) - 1) && decide (0 ≤ x2 ∧ x2 ≤ (i : Int) - 1))) := by
    intro b
    refine Ev.step (f := fun _ => some (b && (decide (0 ≤ x1 ∧ x1 ≤ (i : Int) - 1) && decide (0 ≤ x2 ∧ x2 ≤ (i : Int) - 1)))) (fun k => ?_) (Ev.now _)
    simp only [impl_Node_ok.j0, in_some, Option.bind_some]
    rw [w64 (by omega)]
    cases b <;> by_cases h : 0 ≤ x1 ∧ x1 ≤ (i : Int) - 1 <;> simp [h]
  by_cases h0 : x0 = 0
  · subst h0
    refine ⟨_, Ev.iteT rfl (Ev.bindc (in_some _ _ _) (ev_const (r := decide (0 ≤ x1 ∧ x1 ≤ n - 1) && (x2 == 0)) ?_)), ?_⟩
    · by_cases h : 0 ≤ x1 ∧ x1 ≤ n - 1 <;> simp [h]
    · simp; omega
  · by_cases h1 : x0 = 1
    · subst h1
      refine ⟨_, Ev.iteF (by simp) (Ev.iteT rfl (ev_const (r := decide (x1 = 0) && (x2 == 0)) ?_)), ?_⟩
      · by_cases h : x1 = 0 <;> simp [h]
      · simp
    · by_cases h2 : x0 = 2
      · exact ⟨_, Ev.iteF h0 (Ev.iteF h1 (Ev.iteT h2 (hj _))), by subst h2; simp; omega⟩
      · exact ⟨_, Ev.iteF h0 (Ev.iteF h1 (Ev.iteF h2 (hj _))), by simp; omega⟩
theorem spec_ok (n : Int) (l : List (S81)) (m : List Int) (hn : -128 ≤ n ∧ n ≤ 127) (hx : ∀ y ∈ l, ok81 y) (hl : l.length ≤ 1048576) (hy : ∀ y ∈ m, -32768 ≤ y ∧ y ≤ 32767) (hm : m.length ≤ 1048576) :
    ∃ r, Ev (fun k => spec_l04Ok.f k [(⟨n, l, m⟩ : S31)]) r ∧ (r = true ↔ NetOk n l m) := by
  have hj : Ev (fun k => spec_l04Ok.j0 k [(⟨n, l, m⟩ : S31)] true) false := Ev.step (f := fun _ => some false) (fun k => by simp [spec_l04Ok.j0]) (Ev.now _)
  unfold spec_l04Ok.f
  simp only [in_same, in_some, rd0]
  rw [w64 (n := n) (by omega)]
  by_cases h1 : 1 ≤ n ∧ n ≤ 6
  · by_cases h2 : 1 ≤ (l.length : Int) ∧ (l.length : Int) ≤ 80
    · by_cases h3 : 1 ≤ (m.length : Int) ∧ (m.length : Int) ≤ 8
      · have hout : ∃ r, Ev (fun k => spec_l04Ok.l1 k [(⟨n, l, m⟩ : S31)] 0) r ∧ (r = true ↔ ∀ i : Nat, i < m.length → 0 ≤ m.getD i 0 ∧ m.getD i 0 < l.length) := by
          refine ev_all (g := fun k i => spec_l04Ok.l1 k [(⟨n, l, m⟩ : S31)] i) _ (fun k => by simp [spec_l04Ok.l1, rd0]) (fun i h hp => ⟨0, fun k _ => ?_⟩) (fun i h hp => ⟨0, fun k _ => ?_⟩)
          all_goals
            have hb := i16_at hy i
            simp only [spec_l04Ok.l1, rd0, rdi]
            rw [if_pos (by simp), if_pos (by omega), if_pos (by omega), w64 (n := m.getD i 0) (by omega)]
          · rw [if_neg (by omega), if_neg (by omega), w64 (by omega)]; rfl
          · by_cases h4 : m.getD i 0 < 0
            · rw [if_pos h4]
            · rw [if_neg h4, if_pos (by omega)]
        obtain ⟨r, h4, h5⟩ := hout
        have hnode : ∃ r, Ev (fun k => spec_l04Ok.l0 k [(⟨n, l, m⟩ : S31)] 0) r ∧ (r = true ↔ (∀ i : Nat, i < l.length → NodeOk n i (l.getD i z81)) ∧ ∀ i : Nat, i < m.length → 0 ≤ m.getD i 0 ∧ m.getD i 0 < l.length) := by
          refine ev_scanB (g := fun k i => spec_l04Ok.l0 k [(⟨n, l, m⟩ : S31)] i) (fun i => NodeOk n i (l.getD i z81)) h5 (fun _ => ?_) (fun i h hp s hs => ?_) (fun i h hp => ?_)
          · refine Ev.step (fun k => by rw [spec_l04Ok.l0]) ?_
            simp only [rd0]
            exact Ev.iteT (by simp) (Ev.iteF (by omega) h4)
          all_goals
            obtain ⟨q, h6, h7⟩ := spec_node n l m hn hx i h
            refine Ev.step (fun k => by rw [spec_l04Ok.l0]) ?_
            simp only [rd0]
            refine Ev.iteT (by simp) (Ev.iteT (by omega) (Ev.bindc h6 ?_))
          · refine Ev.iteT (h7.2 hp) ?_
            rw [w64 (by omega)]
            exact hs
          · exact Ev.iteF (fun h => hp (h7.1 h)) (Ev.now _)
        obtain ⟨s, h6, h7⟩ := hnode
        refine ⟨s, Ev.iteT (by simp) (Ev.bindc rfl (Ev.iteT (by simpa using h1) (Ev.bindc rfl (Ev.iteT (by simpa using h2) (Ev.bindc rfl ?_))))), ?_⟩
        · refine Ev.step (fun k => by rw [spec_l04Ok.j0]) (Ev.iteF (by simp; omega) h6)
        · rw [h7]; exact ⟨fun h => ⟨h1, by omega, by omega, h.1, h.2⟩, fun h => ⟨h.node, h.out⟩⟩
      · refine ⟨false, Ev.iteT (by simp) (Ev.bindc rfl (Ev.iteT (by simpa using h1) (Ev.bindc rfl (Ev.iteT (by simpa using h2) (Ev.bindc rfl ?_))))), ?_⟩
        · rw [show (!decide (1 ≤ (m.length : Int) ∧ (m.length : Int) ≤ 8)) = true by rw [decide_eq_false h3]; rfl]; exact hj
        · simp only [Bool.false_eq_true, false_iff]; intro h; have := h.outs; omega
    · refine ⟨false, Ev.iteT (by simp) (Ev.bindc rfl (Ev.iteT (by simpa using h1) (Ev.bindc rfl (Ev.iteF (by simpa using h2) hj)))), ?_⟩
      simp only [Bool.false_eq_true, false_iff]; intro h; have := h.len; omega
  · refine ⟨false, Ev.iteT (by simp) (Ev.bindc rfl (Ev.iteF (by simpa using h1) hj)), ?_⟩
    simp only [Bool.false_eq_true, false_iff]; intro h; have := h.inputs; omega
theorem impl_out (n : Int) (l : List (S81)) (m : List Int) (hl : l.length ≤ 1048576) (hl0 : 1 ≤ l.length) (hy : ∀ y ∈ m, -32768 ≤ y ∧ y ≤ 32767) (hm : m.length ≤ 1048576) :
    ∃ r, Ev (fun k => slices_ContainsFunc__impl_ValidNetwork_1.f k m [(⟨n, l, m⟩ : S31)]) r ∧ (r = false ↔ ∀ i : Nat, i < m.length → 0 ≤ m.getD i 0 ∧ m.getD i 0 < l.length) := by
  unfold slices_ContainsFunc__impl_ValidNetwork_1.f slices_IndexFunc__impl_ValidNetwork_1.f
  have hv : ∀ i : Nat, i < m.length → impl_ValidNetwork_1.f (rd m i) [(⟨n, l, m⟩ : S31)] = some (!decide (0 ≤ m.getD i 0 ∧ m.getD i 0 < l.length)) := fun i hi => by
    have hb := i16_at hy i
    unfold impl_ValidNetwork_1.f
    simp only [rd0, rdi, in_some, Option.bind_some]
    rw [if_pos (by simp), w64 (n := m.getD i 0) (by omega), w64 (by omega)]
    congr 3
    simp; omega
  rcases first_or_all (fun i => 0 ≤ m.getD i 0 ∧ m.getD i 0 < (l.length : Int)) m.length with h | ⟨j, h1, h2, h3⟩
  · refine ⟨false, Ev.bind (a := -1) (ev_loop2 (g := fun k i => slices_IndexFunc__impl_ValidNetwork_1.l0 k m m.length i [(⟨n, l, m⟩ : S31)]) (fun i => (i : Int)) m.length ?_ fun i hi ih => ?_) (ev_const (by simp)), by simpa using h⟩
    · refine Ev.step (fun k => by rw [slices_IndexFunc__impl_ValidNetwork_1.l0]) ?_
      exact Ev.iteF (by omega) (Ev.now _)
    · refine Ev.step (fun k => by rw [slices_IndexFunc__impl_ValidNetwork_1.l0]) ?_
      refine Ev.iteT (by omega) (Ev.iteT (by omega) (Ev.iteT (by omega) (Ev.bindc (hv i hi) (Ev.iteF (by simpa using h i hi) ?_))))
      rw [w64 (by omega)]
      exact ih
  · refine ⟨true, Ev.bind (a := (j : Int)) (ev_loop2 (g := fun k i => slices_IndexFunc__impl_ValidNetwork_1.l0 k m m.length i [(⟨n, l, m⟩ : S31)]) (fun i => (i : Int)) j ?_ fun i hi ih => ?_) (ev_const (by simp)), ?_⟩
    · refine Ev.step (fun k => by rw [slices_IndexFunc__impl_ValidNetwork_1.l0]) ?_
      exact Ev.iteT (by omega) (Ev.iteT (by omega) (Ev.iteT (by omega) (Ev.bindc (hv j h1) (Ev.iteT (by rw [decide_eq_false h2]; rfl) (Ev.now _)))))
    · refine Ev.step (fun k => by rw [slices_IndexFunc__impl_ValidNetwork_1.l0]) ?_
      refine Ev.iteT (by omega) (Ev.iteT (by omega) (Ev.iteT (by omega) (Ev.bindc (hv i (by omega)) (Ev.iteF (by simpa using h3 i hi) ?_))))
      rw [w64 (by omega)]
      exact ih
    · simp only [Bool.true_eq_false, false_iff]; exact fun h => h2 (h j h1)
theorem impl_ok (n : Int) (l : List (S81)) (m : List Int) (hn : -128 ≤ n ∧ n ≤ 127) (hx : ∀ y ∈ l, ok81 y) (hl : l.length ≤ 1048576) (hy : ∀ y ∈ m, -32768 ≤ y ∧ y ≤ 32767) (hm : m.length ≤ 1048576) :
    ∃ r, Ev (fun k => impl_ValidNetwork.f k n l m) r ∧ (r = true ↔ NetOk n l m) := by
  have hj : Ev (fun k => impl_ValidNetwork.j0 k true n l m) false := Ev.step (f := fun _ => some false) (fun k => by simp [impl_ValidNetwork.j0]) (Ev.now _)
  unfold impl_ValidNetwork.f
  simp only [in_some]
  rw [w64 (n := n) (by omega)]
  by_cases h1 : 1 ≤ n ∧ n ≤ 6
  · by_cases h2 : 1 ≤ (l.length : Int) ∧ (l.length : Int) ≤ 80
    · by_cases h3 : 1 ≤ (m.length : Int) ∧ (m.length : Int) ≤ 8
      · obtain ⟨r, h4, h5⟩ := impl_out n l m hl (by omega) hy hm
        have h5 : (!r) = true ↔ ∀ i : Nat, i < m.length → 0 ≤ m.getD i 0 ∧ m.getD i 0 < l.length := by rw [← h5]; simp
        have hnode : ∃ r, Ev (fun k => impl_ValidNetwork.l0 k l l.length 0 n l m) r ∧ (r = true ↔ (∀ i : Nat, i < l.length → NodeOk n i (l.getD i z81)) ∧ ∀ i : Nat, i < m.length → 0 ≤ m.getD i 0 ∧ m.getD i 0 < l.length) := by
          refine ev_scanB (g := fun k i => impl_ValidNetwork.l0 k l l.length i n l m) (fun i => NodeOk n i (l.getD i z81)) h5 (fun _ => ?_) (fun i h hp s hs => ?_) (fun i h hp => ?_)
          · refine Ev.step (fun k => by rw [impl_ValidNetwork.l0]) ?_
            exact Ev.iteF (by omega) (Ev.bind h4 (Ev.now _))
          all_goals
            obtain ⟨q, h6, h7⟩ := impl_node n (l.getD i z81) hn (ok_at hx i) i (by omega)
            refine Ev.step (fun k => by rw [impl_ValidNetwork.l0]) ?_
            simp only [rdn]
            refine Ev.iteT (by omega) (Ev.iteT (by omega) (Ev.iteT (by omega) (Ev.bind h6 ?_)))
          · refine Ev.iteT (h7.2 hp) ?_
            rw [w64 (by omega)]
            exact hs
          · exact Ev.iteF (fun h => hp (h7.1 h)) (Ev.now _)
        obtain ⟨s, h6, h7⟩ := hnode
        refine ⟨s, (Ev.bindc rfl (Ev.iteT (by simpa using h1) (Ev.bindc rfl (Ev.iteT (by simpa using h2) (Ev.bindc rfl ?_))))), ?_⟩
        · refine Ev.step (fun k => by rw [impl_ValidNetwork.j0]) (Ev.iteF (by simp; omega) h6)
        · rw [h7]; exact ⟨fun h => ⟨h1, by omega, by omega, h.1, h.2⟩, fun h => ⟨h.node, h.out⟩⟩
      · refine ⟨false, (Ev.bindc rfl (Ev.iteT (by simpa using h1) (Ev.bindc rfl (Ev.iteT (by simpa using h2) (Ev.bindc rfl ?_))))), ?_⟩
        · rw [show (!decide (1 ≤ (m.length : Int) ∧ (m.length : Int) ≤ 8)) = true by rw [decide_eq_false h3]; rfl]; exact hj
        · simp only [Bool.false_eq_true, false_iff]; intro h; have := h.outs; omega
    · refine ⟨false, (Ev.bindc rfl (Ev.iteT (by simpa using h1) (Ev.bindc rfl (Ev.iteF (by simpa using h2) hj)))), ?_⟩
      simp only [Bool.false_eq_true, false_iff]; intro h; have := h.len; omega
  · refine ⟨false, (Ev.bindc rfl (Ev.iteF (by simpa using h1) hj)), ?_⟩
    simp only [Bool.false_eq_true, false_iff]; intro h; have := h.inputs; omega

theorem full_same (n : Int) (h : 1 ≤ n ∧ n ≤ 6) : ∃ v, spec_l04Full.f n = some v ∧ impl_full.f n = some v ∧ 0 ≤ v ∧ v ≤ 18446744073709551615 := by
  have hn : n = 1 ∨ n = 2 ∨ n = 3 ∨ n = 4 ∨ n = 5 ∨ n = 6 := by omega
  rcases hn with rfl | rfl | rfl | rfl | rfl | rfl
  · exact ⟨3, by decide +kernel, by decide +kernel, by omega, by omega⟩
  · exact ⟨15, by decide +kernel, by decide +kernel, by omega, by omega⟩
  · exact ⟨255, by decide +kernel, by decide +kernel, by omega, by omega⟩
  · exact ⟨65535, by decide +kernel, by decide +kernel, by omega, by omega⟩
  · exact ⟨4294967295, by decide +kernel, by decide +kernel, by omega, by omega⟩
  · exact ⟨18446744073709551615, by decide +kernel, by decide +kernel, by omega, by omega⟩
theorem input_all : ∀ n ∈ ([1, 2, 3, 4, 5, 6] : List Int), ∀ i ∈ ([0, 1, 2, 3, 4, 5] : List Int), i < n → ((spec_l04Input.f 100 n i).any (fun v => decide (0 ≤ v ∧ v ≤ 18446744073709551615)) = true ∧ spec_l04Input.f 100 n i = impl_inputTable.f 100 n i) := by decide +kernel
theorem input_same (n i : Int) (h : 1 ≤ n ∧ n ≤ 6) (hi : 0 ≤ i ∧ i < n) : ∃ v, Ev (fun k => spec_l04Input.f k n i) v ∧ Ev (fun k => impl_inputTable.f k n i) v ∧ 0 ≤ v ∧ v ≤ 18446744073709551615 := by
  have hn : n ∈ ([1, 2, 3, 4, 5, 6] : List Int) := by
    have : n = 1 ∨ n = 2 ∨ n = 3 ∨ n = 4 ∨ n = 5 ∨ n = 6 := by omega
    rcases this with rfl | rfl | rfl | rfl | rfl | rfl <;> decide
  have hj : i ∈ ([0, 1, 2, 3, 4, 5] : List Int) := by
    have : i = 0 ∨ i = 1 ∨ i = 2 ∨ i = 3 ∨ i = 4 ∨ i = 5 := by omega
    rcases this with rfl | rfl | rfl | rfl | rfl | rfl <;> decide
  obtain ⟨h1, h2⟩ := input_all n hn i hj hi.2
  cases hv : spec_l04Input.f 100 n i with
  | none => rw [hv] at h1; simp at h1
  | some v =>
    rw [hv] at h1 h2
    simp only [Option.any_some, decide_eq_true_eq] at h1
    exact ⟨v, Ev.of (k := 100) (fun k => spec_l04Input.mono n i k) hv, Ev.of (k := 100) (fun k => impl_inputTable.mono n i k) h2.symm, h1⟩
def U64 (v : Int) : Prop := 0 ≤ v ∧ v ≤ 18446744073709551615
theorem bits_u64 (o : Go.BinOp) (a b : Int) : U64 (Go.bits o .u64 a b) := by
  have h : ∀ c, U64 (IntKind.u64.wrap c) := fun c => by unfold U64; rw [IntKind.wrap_u64]; omega
  exact h _
theorem tables_same (n : Int) (l : List (S81)) (m : List Int) (hx : ∀ y ∈ l, ok81 y) (h : NetOk n l m) :
    ∃ t, Ev (fun k => spec_l04Tables.f k [(⟨n, l, m⟩ : S31)]) t ∧ Ev (fun k => impl_Network_tables.f k [(⟨n, l, m⟩ : S31)]) t ∧ t.length = l.length ∧ ∀ y ∈ t, U64 y := by
  obtain ⟨v, h1, h2, h3⟩ := full_same n h.inputs
  have hlen := h.len
  have hin := h.inputs
  unfold spec_l04Tables.f impl_Network_tables.f
  simp only [rd0]
  rw [w64 (n := n) (by omega)]
  have key := ev_pair (σ := List Int) (ρ := List Int) (fun i t => t.length = i ∧ ∀ y ∈ t, U64 y) l.length
    (fun i t k => spec_l04Tables.l0 k [(⟨n, l, m⟩ : S31)] v t i) (fun i t k => impl_Network_tables.l0 k [(⟨n, l, m⟩ : S31)] t l l.length i) (fun t => t.length = l.length ∧ ∀ y ∈ t, U64 y) ?_ ?_ [] (by simp)
  · obtain ⟨t, k1, k2, k3⟩ := key
    exact ⟨t, Ev.iteT (by simp) (Ev.bindc h1 k1), Ev.iteT (by simp) k2, k3⟩
  · intro t ht
    refine ⟨t, ?_, ?_, ht⟩
    · refine Ev.step (fun k => by rw [spec_l04Tables.l0]) ?_
      simp only [rd0]
      exact Ev.iteT (by simp) (Ev.iteF (by omega) (Ev.now _))
    · refine Ev.step (fun k => by rw [impl_Network_tables.l0]) ?_
      exact Ev.iteF (by omega) (Ev.now _)
  · intro i t hi ⟨ht, hu⟩
    have hb := ok_at hx i
    have ho := h.node i hi
    obtain ⟨⟨x0, x1, x2⟩, hX⟩ : ∃ x, x = l.getD i z81 := ⟨_, rfl⟩
    have app : ∀ v, U64 v → (t ++ [v]).length = i + 1 ∧ ∀ y ∈ t ++ [v], U64 y := fun v hv => ⟨by simp [ht], fun y hy => by rcases List.mem_append.1 hy with hy | hy; exact hu y hy; simp at hy; exact hy ▸ hv⟩
    have wi : wrap64 ((i : Int) + 1) = ((i + 1 : Nat) : Int) := w64 (by omega)
    rw [← hX] at hb ho
    obtain ⟨b0, b1, b2⟩ := hb
    dsimp only at b0 b1 b2
    have s1 : ∀ r, Ev (fun k => spec_l04Tables.l0 k [(⟨n, l, m⟩ : S31)] v t i) r ↔ Ev (fun k => spec_l04Tables.l0 (k + 1) [(⟨n, l, m⟩ : S31)] v t i) r := fun r => ⟨fun ⟨K, h⟩ => ⟨K, fun k hk => h _ (by omega)⟩, fun h => Ev.step (fun _ => rfl) h⟩
    have s2 : ∀ r, Ev (fun k => impl_Network_tables.l0 k [(⟨n, l, m⟩ : S31)] t l l.length i) r ↔ Ev (fun k => impl_Network_tables.l0 (k + 1) [(⟨n, l, m⟩ : S31)] t l l.length i) r := fun r => ⟨fun ⟨K, h⟩ => ⟨K, fun k hk => h _ (by omega)⟩, fun h => Ev.step (fun _ => rfl) h⟩
    simp only [spec_l04Tables.l0, impl_Network_tables.l0, rd0, rdn, ← hX, wi] at s1 s2
    have c1 : (i : Int) < (l.length : Int) := by omega
    have c2 : 0 ≤ (i : Int) := by omega
    have c3 : 0 < (([(⟨n, l, m⟩ : S31)].length : Nat) : Int) := by simp
    have c4 : t.length < 17592186044416 := by omega
    simp only [c1, c2, c3, c4, if_true] at s1 s2
    have e1 : wrap64 n = n := w64 (by omega)
    have e2 : wrap64 x1 = x1 := w64 (by omega)
    simp only [e1, e2] at s1 s2
    rcases ho with ⟨rfl, a1, a2, rfl⟩ | ⟨rfl, rfl, rfl⟩ | ⟨a0, a1, a2, a3, a4⟩
    · dsimp only at a1 a2
      obtain ⟨w, k1, k2, k3⟩ := input_same n x1 h.inputs ⟨a1, a2⟩
      refine .inl ⟨t ++ [w], app w k3, fun r => ⟨fun h => (s1 r).2 ?_, fun h => (s2 r).2 ?_⟩⟩
      · exact Ev.iteT rfl (Ev.bind k1 h)
      · exact Ev.iteT rfl (Ev.bind k2 h)
    · refine .inl ⟨t ++ [v], app v h3, fun r => ⟨fun h => (s1 r).2 ?_, fun h => (s2 r).2 ?_⟩⟩
      · exact Ev.iteF (by simp) (Ev.iteF (by simp) (Ev.iteF (by simp) h))
      · exact Ev.iteF (by simp) (Ev.iteT rfl (Ev.bindc h2 h))
    · dsimp only at a0 a1 a2 a3 a4
      rcases a0 with rfl | rfl
      · refine .inl ⟨t ++ [Go.bits .or .u64 (rd t x1) (rd t x2)], app _ (bits_u64 _ _ _), fun r => ⟨fun h => (s1 r).2 ?_, fun h => (s2 r).2 ?_⟩⟩
        · exact Ev.iteF (by simp) (Ev.iteT rfl (Ev.iteT a1 (Ev.iteT (by omega) (Ev.iteT a3 (Ev.iteT (by omega) h)))))
        · exact Ev.iteF (by simp) (Ev.iteF (by simp) (Ev.iteT rfl (Ev.iteT a1 (Ev.iteT (by omega) (Ev.iteT a3 (Ev.iteT (by omega) h))))))
      · refine .inl ⟨t ++ [Go.bits .andNot .u64 (rd t x1) (rd t x2)], app _ (bits_u64 _ _ _), fun r => ⟨fun h => (s1 r).2 ?_, fun h => (s2 r).2 ?_⟩⟩
        · exact Ev.iteF (by simp) (Ev.iteF (by simp) (Ev.iteT rfl (Ev.iteT a1 (Ev.iteT (by omega) (Ev.iteT a3 (Ev.iteT (by omega) h))))))
        · exact Ev.iteF (by simp) (Ev.iteF (by simp) (Ev.iteF (by simp) (Ev.iteT a1 (Ev.iteT (by omega) (Ev.iteT a3 (Ev.iteT (by omega) h))))))

theorem merge_last (n : Int) (l : List (S81)) (m : List Int) (n' : Int) (l' : List (S81)) (m' : List Int) (x2 : List Int) (hout : ∀ i : Nat, i < m.length → 0 ≤ m.getD i 0 ∧ m.getD i 0 < (x2.length : Int)) (hlen : m.length = m'.length) (hm : m.length ≤ 8) (hx : x2.length ≤ 80) :
    ∃ r : Bool × Int, Ev (fun k => spec_CheckMerge.l1 k x2 0 n l m n' l' m') r ∧ Ev (fun k => impl_CheckMerge.l1 k x2 m m.length 0 n' l' m') r ∧ True := by
  refine ev_pair (σ := Unit) (ρ := Bool × Int) (fun _ _ => True) m.length (fun i _ k => spec_CheckMerge.l1 k x2 i n l m n' l' m') (fun i _ k => impl_CheckMerge.l1 k x2 m m.length i n' l' m') (fun _ => True) ?_ ?_ () trivial
  · intro _ _
    refine ⟨(true, 0), ?_, ?_, trivial⟩
    · refine Ev.step (fun k => by rw [spec_CheckMerge.l1]) ?_
      exact Ev.iteF (by omega) (Ev.now _)
    · refine Ev.step (fun k => by rw [impl_CheckMerge.l1]) ?_
      exact Ev.iteF (by omega) (Ev.now _)
  · intro i _ hi _
    have ho := hout i hi
    have wi : wrap64 ((i : Int) + 1) = ((i + 1 : Nat) : Int) := w64 (by omega)
    by_cases he : rd x2 (m.getD i 0) = wrap64 (m'.getD i 0)
    · refine .inl ⟨(), trivial, fun r => ⟨fun hh => ?_, fun hh => ?_⟩⟩
      · refine Ev.step (fun k => by rw [spec_CheckMerge.l1]) ?_
        simp only [rdi, wi]
        exact Ev.iteT (by omega) (Ev.iteT (by omega) (Ev.iteT ho.1 (Ev.iteT (by omega) (Ev.iteT (by omega) (Ev.iteT he hh)))))
      · refine Ev.step (fun k => by rw [impl_CheckMerge.l1]) ?_
        simp only [rdi, wi]
        exact Ev.iteT (by omega) (Ev.iteT (by omega) (Ev.iteT (by omega) (Ev.iteT ho.1 (Ev.iteT (by omega) (Ev.iteT (by omega) (Ev.iteT he hh))))))
    · refine .inr ⟨(false, 0), ?_, ?_, trivial⟩
      · refine Ev.step (fun k => by rw [spec_CheckMerge.l1]) ?_
        simp only [rdi]
        exact Ev.iteT (by omega) (Ev.iteT (by omega) (Ev.iteT ho.1 (Ev.iteT (by omega) (Ev.iteT (by omega) (Ev.iteF he (Ev.now _))))))
      · refine Ev.step (fun k => by rw [impl_CheckMerge.l1]) ?_
        simp only [rdi]
        exact Ev.iteT (by omega) (Ev.iteT (by omega) (Ev.iteT (by omega) (Ev.iteT ho.1 (Ev.iteT (by omega) (Ev.iteT (by omega) (Ev.iteF he (Ev.now _)))))))
theorem merge_main (n : Int) (l : List (S81)) (m : List Int) (n' : Int) (l' : List (S81)) (m' : List Int) (x2 t t' : List Int) (hx : x2.length ≤ 80) (ht : t.length = x2.length) (ht' : t'.length ≤ 80)
    (ins : ∀ a, spec_l00In.f a 0 (wrap64 ((t'.length : Int) - 1)) = some (decide (0 ≤ a ∧ a ≤ (t'.length : Int) - 1))) (ini : ∀ a, impl_in.f a 0 (wrap64 ((t'.length : Int) - 1)) = some (decide (0 ≤ a ∧ a ≤ (t'.length : Int) - 1)))
    (last : ∃ r : Bool × Int, Ev (fun k => spec_CheckMerge.l1 k x2 0 n l m n' l' m') r ∧ Ev (fun k => impl_CheckMerge.l1 k x2 m m.length 0 n' l' m') r ∧ True) :
    ∃ r : Bool × Int, Ev (fun k => spec_CheckMerge.l0 k x2 t t' 0 n l m n' l' m') r ∧ Ev (fun k => impl_CheckMerge.l0 k x2 t t' x2 x2.length 0 n l m n' l' m') r ∧ True := by
  refine ev_pair (σ := Unit) (ρ := Bool × Int) (fun _ _ => True) x2.length (fun i _ k => spec_CheckMerge.l0 k x2 t t' i n l m n' l' m') (fun i _ k => impl_CheckMerge.l0 k x2 t t' x2 x2.length i n l m n' l' m') (fun _ => True) ?_ ?_ () trivial
  · intro _ _
    obtain ⟨s, l1, l2, _⟩ := last
    refine ⟨s, ?_, ?_, trivial⟩
    · refine Ev.step (fun k => by rw [spec_CheckMerge.l0]) ?_
      exact Ev.iteF (by omega) l1
    · refine Ev.step (fun k => by rw [impl_CheckMerge.l0]) ?_
      exact Ev.iteF (by omega) l2
  · intro i _ hi _
    have wi : wrap64 ((i : Int) + 1) = ((i + 1 : Nat) : Int) := w64 (by omega)
    by_cases hin : 0 ≤ x2.getD i 0 ∧ x2.getD i 0 ≤ (t'.length : Int) - 1
    · by_cases he : t.getD i 0 = rd t' (x2.getD i 0)
      · refine .inl ⟨(), trivial, fun r => ⟨fun hh => ?_, fun hh => ?_⟩⟩
        · refine Ev.step (fun k => by rw [spec_CheckMerge.l0]) ?_
          simp only [rdi, wi]
          exact Ev.iteT (by omega) (Ev.iteT (by omega) (Ev.bindc (ins _) (Ev.iteT (decide_eq_true hin) (Ev.iteT (by omega) (Ev.iteT hin.1 (Ev.iteT (by omega) (Ev.iteT he hh)))))))
        · refine Ev.step (fun k => by rw [impl_CheckMerge.l0]) ?_
          simp only [rdi, wi]
          exact Ev.iteT (by omega) (Ev.iteT (by omega) (Ev.iteT (by omega) (Ev.bindc (ini _) (Ev.iteT (decide_eq_true hin) (Ev.iteT (by omega) (Ev.iteT hin.1 (Ev.iteT (by omega) (Ev.iteT he hh))))))))
      · refine .inr ⟨(false, 0), ?_, ?_, trivial⟩
        · refine Ev.step (fun k => by rw [spec_CheckMerge.l0]) ?_
          simp only [rdi]
          exact Ev.iteT (by omega) (Ev.iteT (by omega) (Ev.bindc (ins _) (Ev.iteT (decide_eq_true hin) (Ev.iteT (by omega) (Ev.iteT hin.1 (Ev.iteT (by omega) (Ev.iteF he (Ev.now _))))))))
        · refine Ev.step (fun k => by rw [impl_CheckMerge.l0]) ?_
          simp only [rdi]
          exact Ev.iteT (by omega) (Ev.iteT (by omega) (Ev.iteT (by omega) (Ev.bindc (ini _) (Ev.iteT (decide_eq_true hin) (Ev.iteT (by omega) (Ev.iteT hin.1 (Ev.iteT (by omega) (Ev.iteF he (Ev.now _)))))))))
    · refine .inr ⟨(false, 0), ?_, ?_, trivial⟩
      · refine Ev.step (fun k => by rw [spec_CheckMerge.l0]) ?_
        simp only [rdi]
        exact Ev.iteT (by omega) (Ev.iteT (by omega) (Ev.bindc (ins _) (Ev.iteF (by rw [decide_eq_false hin]; decide) (Ev.now _))))
      · refine Ev.step (fun k => by rw [impl_CheckMerge.l0]) ?_
        simp only [rdi]
        exact Ev.iteT (by omega) (Ev.iteT (by omega) (Ev.iteT (by omega) (Ev.bindc (ini _) (Ev.iteF (by rw [decide_eq_false hin]; decide) (Ev.now _)))))
theorem core (x0_0 : Int) (x0_1 : List (S81)) (x0_2 : List (Int)) (x1_0 : Int) (x1_1 : List (S81)) (x1_2 : List (Int)) (x2 : List (Int)) (ox0_0 : (-128 ≤ x0_0 ∧ x0_0 ≤ 127)) (ox0_1 : ∀ y ∈ x0_1, ok81 y) (nx0_1 : x0_1.length ≤ 1048576) (ox0_2 : ∀ y ∈ x0_2, (-32768 ≤ y ∧ y ≤ 32767)) (nx0_2 : x0_2.length ≤ 1048576) (ox1_0 : (-128 ≤ x1_0 ∧ x1_0 ≤ 127)) (ox1_1 : ∀ y ∈ x1_1, ok81 y) (nx1_1 : x1_1.length ≤ 1048576) (ox1_2 : ∀ y ∈ x1_2, (-32768 ≤ y ∧ y ≤ 32767)) (nx1_2 : x1_2.length ≤ 1048576) (ox2 : ∀ y ∈ x2, (-9223372036854775808 ≤ y ∧ y ≤ 9223372036854775807)) (nx2 : x2.length ≤ 1048576) : ∃ r : Bool × Int, Ev (fun k => spec_CheckMerge.f k x0_0 x0_1 x0_2 x1_0 x1_1 x1_2 x2) r ∧ Ev (fun k => impl_CheckMerge.f k x0_0 x0_1 x0_2 x1_0 x1_1 x1_2 x2) r ∧ True := by
  obtain ⟨r, h1, h2⟩ := spec_ok x0_0 x0_1 x0_2 ox0_0 ox0_1 nx0_1 ox0_2 nx0_2
  obtain ⟨q, h3, h4⟩ := impl_ok x0_0 x0_1 x0_2 ox0_0 ox0_1 nx0_1 ox0_2 nx0_2
  obtain rfl := bool_same h2 h4
  obtain ⟨r', h1', h2'⟩ := spec_ok x1_0 x1_1 x1_2 ox1_0 ox1_1 nx1_1 ox1_2 nx1_2
  obtain ⟨q', h3', h4'⟩ := impl_ok x1_0 x1_1 x1_2 ox1_0 ox1_1 nx1_1 ox1_2 nx1_2
  obtain rfl := bool_same h2' h4'
  unfold spec_CheckMerge.f impl_CheckMerge.f
  have a1 : Ev (fun k => spec_CheckMerge.j0 k x2 true x0_0 x0_1 x0_2 x1_0 x1_1 x1_2) (false, 1) := Ev.step (fun k => by rw [spec_CheckMerge.j0]) (Ev.iteT rfl (Ev.now _))
  have a2 : Ev (fun k => impl_CheckMerge.j0 k x2 true x0_0 x0_1 x0_2 x1_0 x1_1 x1_2) (false, 1) := Ev.step (fun k => by rw [impl_CheckMerge.j0]) (Ev.iteT rfl (Ev.now _))
  have b1 : Ev (fun k => spec_CheckMerge.j1 k x2 true x0_0 x0_1 x0_2 x1_0 x1_1 x1_2) (false, 0) := Ev.step (fun k => by rw [spec_CheckMerge.j1]) (Ev.iteT rfl (Ev.now _))
  have b2 : Ev (fun k => impl_CheckMerge.j1 k x2 true x0_0 x0_1 x0_2 x1_0 x1_1 x1_2) (false, 0) := Ev.step (fun k => by rw [impl_CheckMerge.j1]) (Ev.iteT rfl (Ev.now _))
  cases r
  · exact ⟨(false, 1), Ev.bind h1 (Ev.iteF (by simp) a1), Ev.bind h3 (Ev.iteF (by simp) a2), trivial⟩
  cases r'
  · exact ⟨(false, 1), Ev.bind h1 (Ev.iteT rfl (Ev.bind h1' a1)), Ev.bind h3 (Ev.iteT rfl (Ev.bind h3' a2)), trivial⟩
  have ok := h2.1 rfl
  have ok' := h2'.1 rfl
  suffices key : ∃ r : Bool × Int, Ev (fun k => spec_CheckMerge.j0 k x2 false x0_0 x0_1 x0_2 x1_0 x1_1 x1_2) r ∧ Ev (fun k => impl_CheckMerge.j0 k x2 false x0_0 x0_1 x0_2 x1_0 x1_1 x1_2) r by
    obtain ⟨s, a, b⟩ := key
    exact ⟨s, Ev.bind h1 (Ev.iteT rfl (Ev.bind h1' a)), Ev.bind h3 (Ev.iteT rfl (Ev.bind h3' b)), trivial⟩
  by_cases c0 : (x2.length : Int) = (x0_1.length : Int)
  · by_cases c1 : x0_0 = x1_0
    · by_cases c2 : x0_2.length = x1_2.length
      · have e2 : ((x0_2.length : Int) != (x1_2.length : Int)) = false := by simp [c2]
        obtain ⟨t, k1, k2, k3, k4⟩ := tables_same x0_0 x0_1 x0_2 ox0_1 ok
        obtain ⟨t', k1', k2', k3', k4'⟩ := tables_same x1_0 x1_1 x1_2 ox1_1 ok'
        have hlen := ok.len
        have hlen' := ok'.len
        have houts := ok.outs
        have ins : ∀ a, spec_l00In.f a 0 (wrap64 ((t'.length : Int) - 1)) = some (decide (0 ≤ a ∧ a ≤ (t'.length : Int) - 1)) := fun a => by rw [in_same, in_some, w64 (by omega)]
        have ini : ∀ a, impl_in.f a 0 (wrap64 ((t'.length : Int) - 1)) = some (decide (0 ≤ a ∧ a ≤ (t'.length : Int) - 1)) := fun a => by rw [in_some, w64 (by omega)]
        have last := merge_last x0_0 x0_1 x0_2 x1_0 x1_1 x1_2 x2 (fun i hi => by have := ok.out i hi; omega) c2 (by omega) (by omega)
        have main := merge_main x0_0 x0_1 x0_2 x1_0 x1_1 x1_2 x2 t t' (by omega) (by omega) (by omega) ins ini last
        obtain ⟨s, m1, m2, _⟩ := main
        refine ⟨s, Ev.step (fun k => by rw [spec_CheckMerge.j0]) (Ev.iteF (by simp) (Ev.iteT c0 (Ev.iteT c1 ?_))), Ev.step (fun k => by rw [impl_CheckMerge.j0]) (Ev.iteF (by simp) (Ev.iteT c0 (Ev.iteT c1 ?_)))⟩
        · rw [e2]
          exact Ev.step (fun k => by rw [spec_CheckMerge.j1]) (Ev.iteF (by simp) (Ev.bind k1 (Ev.bind k1' m1)))
        · rw [e2]
          exact Ev.step (fun k => by rw [impl_CheckMerge.j1]) (Ev.iteF (by simp) (Ev.bind k2 (Ev.bind k2' m2)))
      · have e2 : ((x0_2.length : Int) != (x1_2.length : Int)) = true := by simp; omega
        refine ⟨(false, 0), Ev.step (fun k => by rw [spec_CheckMerge.j0]) (Ev.iteF (by simp) (Ev.iteT c0 (Ev.iteT c1 (by rw [e2]; exact b1)))), Ev.step (fun k => by rw [impl_CheckMerge.j0]) (Ev.iteF (by simp) (Ev.iteT c0 (Ev.iteT c1 (by rw [e2]; exact b2))))⟩
    · exact ⟨(false, 0), Ev.step (fun k => by rw [spec_CheckMerge.j0]) (Ev.iteF (by simp) (Ev.iteT c0 (Ev.iteF c1 b1))), Ev.step (fun k => by rw [impl_CheckMerge.j0]) (Ev.iteF (by simp) (Ev.iteT c0 (Ev.iteF c1 b2)))⟩
  · exact ⟨(false, 0), Ev.step (fun k => by rw [spec_CheckMerge.j0]) (Ev.iteF (by simp) (Ev.iteF c0 b1)), Ev.step (fun k => by rw [impl_CheckMerge.j0]) (Ev.iteF (by simp) (Ev.iteF c0 b2))⟩

theorem FnExactCheckMerge : QFnExactCheckMerge.Pure := by
  rintro ⟨x0_0, x0_1, x0_2⟩ ⟨x1_0, x1_1, x1_2⟩ x2 ⟨wx0_0, wx0_1, wx0_2⟩ ⟨wx1_0, wx1_1, wx1_2⟩ wx2
  have ox0_0 : (-128 ≤ x0_0 ∧ x0_0 ≤ 127) := i8b wx0_0
  obtain ⟨wx0_1, mx0_1⟩ := wx0_1
  have mx0_1 : x0_1.length ≤ 9223372036854775807 := mx0_1
  obtain ⟨wx0_2, mx0_2⟩ := wx0_2
  have mx0_2 : x0_2.length ≤ 9223372036854775807 := mx0_2
  have ox1_0 : (-128 ≤ x1_0 ∧ x1_0 ≤ 127) := i8b wx1_0
  obtain ⟨wx1_1, mx1_1⟩ := wx1_1
  have mx1_1 : x1_1.length ≤ 9223372036854775807 := mx1_1
  obtain ⟨wx1_2, mx1_2⟩ := wx1_2
  have mx1_2 : x1_2.length ≤ 9223372036854775807 := mx1_2
  obtain ⟨wx2, mx2⟩ := wx2
  have mx2 : x2.length ≤ 9223372036854775807 := mx2
  refine Ev.rounds (r := true) ?_
  unfold laws_FnExactCheckMerge.f
  by_cases gx2 : (x2.length : Int) > 1048576
  · exact Ev.iteT (by omega) (Ev.now _)
  refine Ev.iteF (by omega) ?_
  refine Ev.step (fun k => by rw [laws_FnExactCheckMerge.j0]) ?_
  try dsimp only
  obtain ⟨r_0, e_0, c_0⟩ := szNetwork x0_0 x0_1 x0_2 (1048576) (by omega) mx0_1 mx0_2
  refine Ev.bindc e_0 ?_
  rcases c_0 with c_0 | ⟨rfl, c_0⟩
  · exact Ev.iteT c_0 (Ev.now _)
  refine Ev.iteF (by omega) ?_
  refine Ev.step (fun k => by rw [laws_FnExactCheckMerge.j1]) ?_
  try dsimp only
  obtain ⟨r_1, e_1, c_1⟩ := szNetwork x1_0 x1_1 x1_2 (1048576 - x0_1.length - x0_2.length) (by omega) mx1_1 mx1_2
  refine Ev.bindc e_1 ?_
  rcases c_1 with c_1 | ⟨rfl, c_1⟩
  · exact Ev.iteT c_1 (Ev.now _)
  refine Ev.iteF (by omega) ?_
  refine Ev.step (fun k => by rw [laws_FnExactCheckMerge.j2]) ?_
  try dsimp only
  refine Ev.bind (toNetwork _ _ _ (by first | omega | ((try dsimp only); (try simp only [List.length_map, List.length_range, List.length_nil]); omega) | (simp; omega)) (by first | omega | ((try dsimp only); (try simp only [List.length_map, List.length_range, List.length_nil]); omega) | (simp; omega))) ?_
  try dsimp only
  refine Ev.bind (toNetwork _ _ _ (by first | omega | ((try dsimp only); (try simp only [List.length_map, List.length_range, List.length_nil]); omega) | (simp; omega)) (by first | omega | ((try dsimp only); (try simp only [List.length_map, List.length_range, List.length_nil]); omega) | (simp; omega))) ?_
  try dsimp only
  refine Ev.bind (toInt64S _ (by first | omega | ((try dsimp only); (try simp only [List.length_map, List.length_range, List.length_nil]); omega) | (simp; omega))) ?_
  try dsimp only
  obtain ⟨⟨r0, r1⟩, hs, hi, hb⟩ := core x0_0 (x0_1.map cv131_81) x0_2 x1_0 (x1_1.map cv131_81) x1_2 x2 ox0_0 (fun y hy => by obtain ⟨z, hz, rfl⟩ := List.mem_map.1 hy; exact okof131_81 (wx0_1 z hz)) (by first | omega | ((try dsimp only); (try simp only [List.length_map, List.length_range, List.length_nil]); omega) | (simp; omega)) (fun y hy => (i16b (wx0_2 y hy))) (by first | omega | ((try dsimp only); (try simp only [List.length_map, List.length_range, List.length_nil]); omega) | (simp; omega)) ox1_0 (fun y hy => by obtain ⟨z, hz, rfl⟩ := List.mem_map.1 hy; exact okof131_81 (wx1_1 z hz)) (by first | omega | ((try dsimp only); (try simp only [List.length_map, List.length_range, List.length_nil]); omega) | (simp; omega)) (fun y hy => (i16b (wx1_2 y hy))) (by first | omega | ((try dsimp only); (try simp only [List.length_map, List.length_range, List.length_nil]); omega) | (simp; omega)) (fun y hy => (i64b (wx2 y hy))) (by first | omega | ((try dsimp only); (try simp only [List.length_map, List.length_range, List.length_nil]); omega) | (simp; omega))
  refine Ev.bind hs ?_
  try dsimp only
  refine Ev.bind (toNetwork _ _ _ (by first | omega | ((try dsimp only); (try simp only [List.length_map, List.length_range, List.length_nil]); omega) | (simp; omega)) (by first | omega | ((try dsimp only); (try simp only [List.length_map, List.length_range, List.length_nil]); omega) | (simp; omega))) ?_
  try dsimp only
  refine Ev.bind (toNetwork _ _ _ (by first | omega | ((try dsimp only); (try simp only [List.length_map, List.length_range, List.length_nil]); omega) | (simp; omega)) (by first | omega | ((try dsimp only); (try simp only [List.length_map, List.length_range, List.length_nil]); omega) | (simp; omega))) ?_
  try dsimp only
  refine Ev.bind (toInt64S _ (by first | omega | ((try dsimp only); (try simp only [List.length_map, List.length_range, List.length_nil]); omega) | (simp; omega))) ?_
  try dsimp only
  refine Ev.bind hi ?_
  try dsimp only
  refine Ev.iteF (by first | (simp; done) | (first | omega | ((try dsimp only); (try simp only [List.length_map, List.length_range, List.length_nil]); omega) | (simp; omega))) ?_
  try dsimp only
  refine Ev.step (fun k => by rw [laws_FnExactCheckMerge.j3]) ?_
  try dsimp only
  refine Ev.iteF (by first | (simp; done) | (first | omega | ((try dsimp only); (try simp only [List.length_map, List.length_range, List.length_nil]); omega) | (simp; omega))) ?_
  try dsimp only
  refine Ev.step (fun k => by rw [laws_FnExactCheckMerge.j4]) ?_
  try dsimp only
  refine Ev.bind (toNetwork _ _ _ (by first | omega | ((try dsimp only); (try simp only [List.length_map, List.length_range, List.length_nil]); omega) | (simp; omega)) (by first | omega | ((try dsimp only); (try simp only [List.length_map, List.length_range, List.length_nil]); omega) | (simp; omega))) ?_
  try dsimp only
  refine Ev.bind (eqNetwork _ _ _ (by first | omega | ((try dsimp only); (try simp only [List.length_map, List.length_range, List.length_nil]); omega) | (simp; omega)) (by first | omega | ((try dsimp only); (try simp only [List.length_map, List.length_range, List.length_nil]); omega) | (simp; omega))) ?_
  try dsimp only
  refine Ev.iteT (by first | rfl | (first | omega | ((try dsimp only); (try simp only [List.length_map, List.length_range, List.length_nil]); omega) | (simp; omega))) ?_
  try dsimp only
  refine Ev.step (fun k => by rw [laws_FnExactCheckMerge.j5]) ?_
  try dsimp only
  refine Ev.bind (toNetwork _ _ _ (by first | omega | ((try dsimp only); (try simp only [List.length_map, List.length_range, List.length_nil]); omega) | (simp; omega)) (by first | omega | ((try dsimp only); (try simp only [List.length_map, List.length_range, List.length_nil]); omega) | (simp; omega))) ?_
  try dsimp only
  refine Ev.bind (eqNetwork _ _ _ (by first | omega | ((try dsimp only); (try simp only [List.length_map, List.length_range, List.length_nil]); omega) | (simp; omega)) (by first | omega | ((try dsimp only); (try simp only [List.length_map, List.length_range, List.length_nil]); omega) | (simp; omega))) ?_
  try dsimp only
  refine Ev.iteT (by first | rfl | (first | omega | ((try dsimp only); (try simp only [List.length_map, List.length_range, List.length_nil]); omega) | (simp; omega))) ?_
  try dsimp only
  refine Ev.step (fun k => by rw [laws_FnExactCheckMerge.j6]) ?_
  try dsimp only
  refine Ev.bind (toInt64S _ (by first | omega | ((try dsimp only); (try simp only [List.length_map, List.length_range, List.length_nil]); omega) | (simp; omega))) ?_
  try dsimp only
  refine Ev.bind (eqInt64S _ (by first | omega | ((try dsimp only); (try simp only [List.length_map, List.length_range, List.length_nil]); omega) | (simp; omega))) ?_
  try dsimp only
  refine Ev.iteT (by first | rfl | (first | omega | ((try dsimp only); (try simp only [List.length_map, List.length_range, List.length_nil]); omega) | (simp; omega))) ?_
  try dsimp only
  exact Ev.now _
end Go.Proofs.Ytmpmanfoiocfgaa.Pure
