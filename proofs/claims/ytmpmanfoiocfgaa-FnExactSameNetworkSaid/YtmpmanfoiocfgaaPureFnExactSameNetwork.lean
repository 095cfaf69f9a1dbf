/- The pure side of the law FnExactSameNetwork: for all arguments its Lean function answers true. No condition beside the arguments' kinds. -/
import Derived.Test.YtmpmanfoiocfgaaQFnExactSameNetwork
import Derived.Test.YtmpmanfoiocfgaaPB
namespace Go.Proofs.Ytmpmanfoiocfgaa.Pure
open Go.RowKit Go.Proofs.Ytmpmanfoiocfgaa.PFnExactSameNetwork Go.Proofs.YtmpmanfoiocfgaaW.PrintWords Go.Proofs.YtmpmanfoiocfgaaW.PrintLast Go.Proofs.YtmpmanfoiocfgaaX Go.Proofs.Ytmpmanfoiocfgaa.QFnExactSameNetwork Go.Proofs.YtmpmanfoiocfgaaB
set_option linter.unusedVariables false
set_option linter.unusedSimpArgs false

theorem szNodeS (l0 : List (S131)) (a_ : Int) (ha : 0 ≤ a_ ∧ a_ ≤ 1048576) (hl0 : l0.length ≤ 9223372036854775807) : ∃ r, laws_szNodeS.f l0 a_ = some r ∧ (r < 0 ∨ (r = a_ - l0.length ∧ 0 ≤ r)) := by
  unfold laws_szNodeS.f
  rw [w64 (n := a_ - l0.length) (by omega)]
  by_cases h : a_ - (l0.length : Int) < 0
  · exact ⟨-1, by rw [if_pos h], .inl (by omega)⟩
  · exact ⟨_, by rw [if_neg h], .inr ⟨rfl, by omega⟩⟩
theorem szInt16S (l0 : List (Int)) (a_ : Int) (ha : 0 ≤ a_ ∧ a_ ≤ 1048576) (hl0 : l0.length ≤ 9223372036854775807) : ∃ r, laws_szInt16S.f l0 a_ = some r ∧ (r < 0 ∨ (r = a_ - l0.length ∧ 0 ≤ r)) := by
  unfold laws_szInt16S.f
  rw [w64 (n := a_ - l0.length) (by omega)]
  by_cases h : a_ - (l0.length : Int) < 0
  · exact ⟨-1, by rw [if_pos h], .inl (by omega)⟩
  · exact ⟨_, by rw [if_neg h], .inr ⟨rfl, by omega⟩⟩
theorem szNetwork (a0_0 : Int) (l0_1 : List (S131)) (l0_2 : List (Int)) (a_ : Int) (ha : 0 ≤ a_ ∧ a_ ≤ 1048576) (hl0_1 : l0_1.length ≤ 9223372036854775807) (hl0_2 : l0_2.length ≤ 9223372036854775807) : ∃ r, laws_szNetwork.f a0_0 l0_1 l0_2 a_ = some r ∧ (r < 0 ∨ (r = a_ - l0_1.length - l0_2.length ∧ 0 ≤ r)) := by
  unfold laws_szNetwork.f
  obtain ⟨r0, e0, c0⟩ := szNodeS l0_1 (a_) (by omega) hl0_1
  rw [e0]
  simp only [Option.bind_some]
  rcases c0 with c0 | ⟨rfl, c0⟩
  · exact ⟨-1, by rw [if_pos c0], .inl (by omega)⟩
  rw [if_neg (by omega)]
  obtain ⟨r1, e1, c1⟩ := szInt16S l0_2 (a_ - l0_1.length) (by omega) hl0_2
  rw [e1]
  simp only [Option.bind_some]
  rcases c1 with c1 | ⟨rfl, c1⟩
  · exact ⟨-1, by rw [if_pos c1], .inl (by omega)⟩
  rw [if_neg (by omega)]
  exact ⟨_, rfl, .inr ⟨rfl, by omega⟩⟩
theorem toNode (a0_0 : Int) (a0_1 : Int) (a0_2 : Int)  : laws_toNode.f a0_0 a0_1 a0_2 = some (a0_0, a0_1, a0_2) := by
  unfold laws_toNode.f
  simp
def cv131_81 (x : S131) : S81 := ⟨x.f0, x.f1, x.f2⟩
theorem toNodeS (l0 : List (S131)) (hl0 : l0.length ≤ 1099511627776) : Ev (fun k => laws_toNodeS.f k l0) (l0.map cv131_81) := by
  suffices main : Ev (fun k => laws_toNodeS.f k l0) (l0.map cv131_81) by exact main
  unfold laws_toNodeS.f
  refine Ev.iteT (by omega) (Ev.iteT (by omega) ?_)
  rw [Int.toNat_natCast]
  refine ev_fill2 (g := fun k x i => laws_toNodeS.l0 k l0 x i) cv131_81 l0 _ (Ev.step (f := fun _ => some _) (fun k => by simp [laws_toNodeS.l0]) (Ev.now _)) fun i h x hx ih => ?_
  have eg : l0.getD i z131 = l0[i] := getD_at _ _ _ h
  refine Ev.step (fun k => by rw [laws_toNodeS.l0]) (Ev.iteT (by omega) (Ev.iteT (by omega) ?_))
  simp only [rd_T131, Int.toNat_natCast, eg]
  refine Ev.bindc (toNode _ _ _ ) ?_
  refine Ev.iteT (by omega) ?_
  rw [w64 (by omega)]
  exact ih
theorem toInt16S (l0 : List (Int)) (hl0 : l0.length ≤ 1099511627776) : Ev (fun k => laws_toInt16S.f k l0) l0 := by
  suffices main : Ev (fun k => laws_toInt16S.f k l0) (l0.map id) by rwa [List.map_id] at main
  unfold laws_toInt16S.f
  refine Ev.iteT (by omega) (Ev.iteT (by omega) ?_)
  rw [Int.toNat_natCast]
  refine ev_fill2 (g := fun k x i => laws_toInt16S.l0 k l0 x i) id l0 _ (Ev.step (f := fun _ => some _) (fun k => by simp [laws_toInt16S.l0]) (Ev.now _)) fun i h x hx ih => ?_
  have eg : l0.getD i (0 : Int) = l0[i] := getD_at _ _ _ h
  refine Ev.step (fun k => by rw [laws_toInt16S.l0]) (Ev.iteT (by omega) (Ev.iteT (by omega) ?_))
  simp only [rd, Int.toNat_natCast, eg]
  refine Ev.iteT (by omega) ?_
  rw [w64 (by omega)]
  exact ih
theorem toNetwork (a0_0 : Int) (l0_1 : List (S131)) (l0_2 : List (Int)) (hl0_1 : l0_1.length ≤ 1099511627776) (hl0_2 : l0_2.length ≤ 1099511627776) : Ev (fun k => laws_toNetwork.f k a0_0 l0_1 l0_2) (a0_0, (l0_1.map cv131_81), l0_2) := by
  unfold laws_toNetwork.f
  exact (Ev.bind (toNodeS _ (by first | omega | ((try dsimp only); (try simp only [List.length_map, List.length_range, List.length_nil]); omega) | (simp; omega))) (Ev.bind (toInt16S _ (by first | omega | ((try dsimp only); (try simp only [List.length_map, List.length_range, List.length_nil]); omega) | (simp; omega))) (Ev.now _)))
theorem eqNode (a0_0 : Int) (a0_1 : Int) (a0_2 : Int)  : laws_eqNode.f a0_0 a0_1 a0_2 a0_0 a0_1 a0_2 = some true := by
  unfold laws_eqNode.f
  simp
theorem eqNodeS (l0 : List (S81)) (hl0 : l0.length ≤ 1099511627776) : Ev (fun k => laws_eqNodeS.f k l0 l0) true := by
  unfold laws_eqNodeS.f
  refine Ev.iteT rfl ?_
  refine ev_loop2 (g := fun k i => laws_eqNodeS.l0 k l0 l0 i) (fun i => (i : Int)) l0.length (Ev.step (f := fun _ => some _) (fun k => by simp [laws_eqNodeS.l0]) (Ev.now _)) fun i h ih => ?_
  refine Ev.step (fun k => by rw [laws_eqNodeS.l0]) (Ev.iteT (by omega) (Ev.iteT (by omega) (Ev.iteT (by omega) ?_)))
  refine Ev.bindc (eqNode _ _ _ ) (Ev.iteT rfl ?_)
  rw [w64 (by omega)]
  exact ih
theorem eqInt16S (l0 : List (Int)) (hl0 : l0.length ≤ 1099511627776) : Ev (fun k => laws_eqInt16S.f k l0 l0) true := by
  unfold laws_eqInt16S.f
  refine Ev.iteT rfl ?_
  refine ev_loop2 (g := fun k i => laws_eqInt16S.l0 k l0 l0 i) (fun i => (i : Int)) l0.length (Ev.step (f := fun _ => some _) (fun k => by simp [laws_eqInt16S.l0]) (Ev.now _)) fun i h ih => ?_
  refine Ev.step (fun k => by rw [laws_eqInt16S.l0]) (Ev.iteT (by omega) (Ev.iteT (by omega) (Ev.iteT (by omega) ?_)))
  refine Ev.iteT rfl ?_
  rw [w64 (by omega)]
  exact ih
theorem eqNetwork (a0_0 : Int) (l0_1 : List (S81)) (l0_2 : List (Int)) (hl0_1 : l0_1.length ≤ 1099511627776) (hl0_2 : l0_2.length ≤ 1099511627776) : Ev (fun k => laws_eqNetwork.f k a0_0 l0_1 l0_2 a0_0 l0_1 l0_2) true := by
  unfold laws_eqNetwork.f
  exact (Ev.iteT rfl (Ev.bind (eqNodeS _ (by first | omega | ((try dsimp only); (try simp only [List.length_map, List.length_range, List.length_nil]); omega) | (simp; omega))) (Ev.iteT rfl (Ev.bind (eqInt16S _ (by first | omega | ((try dsimp only); (try simp only [List.length_map, List.length_range, List.length_nil]); omega) | (simp; omega))) (Ev.iteT rfl (Ev.now _))))))
def ok81 (x : S81) : Prop := (-128 ≤ x.f0 ∧ x.f0 ≤ 127) ∧ (-32768 ≤ x.f1 ∧ x.f1 ≤ 32767) ∧ (-32768 ≤ x.f2 ∧ x.f2 ≤ 32767)
theorem okof131_81 {x : S131} (h : wf131 x) : ok81 (cv131_81 x) := by
  obtain ⟨h0, h1, h2⟩ := h
  exact ⟨(i8b h0), (i16b h1), (i16b h2)⟩
theorem node_ne (a b : S81) : (!(a.f0 == b.f0) || (!(a.f1 == b.f1) || !(a.f2 == b.f2))) = true ↔ a ≠ b := by
  obtain ⟨a0, a1, a2⟩ := a
  obtain ⟨b0, b1, b2⟩ := b
  simp
  by_cases h : a0 = b0 <;> by_cases h' : a1 = b1 <;> simp [h, h']
theorem node_loop (l m : List (S81)) (hl : l.length ≤ 1048576) (hlm : l.length = m.length) : ∃ r, Ev (fun k => impl_Node.l0 k l m l.length 0) r ∧ (r = true ↔ l = m) := by
  rw [← eq_of_getD z81 hlm]
  refine ev_all (g := fun k i => impl_Node.l0 k l m l.length i) _ (fun k => by simp [impl_Node.l0]) (fun i h hp => ⟨0, fun k _ => ?_⟩) (fun i h hp => ⟨0, fun k _ => ?_⟩)
  all_goals
    simp only [impl_Node.l0]
    rw [if_pos (by omega), if_pos (by omega), if_pos (by omega), if_pos (by omega)]
  · refine Eq.trans (if_neg (fun h => (node_ne _ _).1 h hp)) ?_; rw [w64 (by omega)]; rfl
  · exact if_pos ((node_ne _ _).2 hp)
theorem int_loop (l m : List Int) (hl : l.length ≤ 1048576) (hlm : l.length = m.length) : ∃ r, Ev (fun k => slices_Equal_int16_int16.l0 k l m l.length 0) r ∧ (r = true ↔ l = m) := by
  rw [← eq_of_getD 0 hlm]
  refine ev_all (g := fun k i => slices_Equal_int16_int16.l0 k l m l.length i) _ (fun k => by simp [slices_Equal_int16_int16.l0]) (fun i h hp => ⟨0, fun k _ => ?_⟩) (fun i h hp => ⟨0, fun k _ => ?_⟩)
  all_goals
    simp only [slices_Equal_int16_int16.l0]
    rw [if_pos (by omega), if_pos (by omega), if_pos (by omega), if_pos (by omega)]
  · refine Eq.trans (if_pos hp) ?_; rw [w64 (by omega)]; rfl
  · exact if_neg hp
theorem impl_same (x : Int) (l : List (S81)) (m : List Int) (x' : Int) (l' : List (S81)) (m' : List Int) (hl : l.length ≤ 1048576) (hm : m.length ≤ 1048576) :
    ∃ r, Ev (fun k => impl_SameNetwork.f k x l m x' l' m') r ∧ (r = true ↔ x = x' ∧ l = l' ∧ m = m') := by
  unfold impl_SameNetwork.f impl_Node.f slices_Equal_int16_int16.f
  by_cases h1 : x = x'
  · by_cases h2 : l.length = l'.length
    · obtain ⟨r, h3, h4⟩ := node_loop l l' hl h2
      cases r
      · exact ⟨false, Ev.iteT h1 (Ev.bind (Ev.iteT (by omega) h3) (Ev.iteF (by simp) (Ev.now _))), by simp at h4; simp [h4]⟩
      · have h4 := h4.1 rfl
        by_cases h5 : m.length = m'.length
        · obtain ⟨r, h6, h7⟩ := int_loop m m' hm h5
          exact ⟨r, Ev.iteT h1 (Ev.bind (Ev.iteT (by omega) h3) (Ev.iteT rfl (Ev.bind (Ev.iteT (by omega) h6) (Ev.now _)))), by rw [h7]; simp [h1, h4]⟩
        · exact ⟨false, Ev.iteT h1 (Ev.bind (Ev.iteT (by omega) h3) (Ev.iteT rfl (Ev.bind (Ev.iteF (by omega) (Ev.now _)) (Ev.now _)))), by simp; intro _ _ h; exact h5 (by rw [h])⟩
    · exact ⟨false, Ev.iteT h1 (Ev.bind (Ev.iteF (by omega) (Ev.now _)) (Ev.iteF (by simp) (Ev.now _))), by simp; intro _ h; exact absurd (by rw [h]) h2⟩
  · exact ⟨false, Ev.iteF h1 (Ev.now _), by simp [h1]⟩
theorem spec_ints (x : Int) (l : List (S81)) (m : List Int) (x' : Int) (l' : List (S81)) (m' : List Int) (hm : m.length ≤ 1048576) (hmm : m.length = m'.length) :
    ∃ r, Ev (fun k => spec_SameNetwork.l1 k 0 x l m x' l' m') r ∧ (r = true ↔ m = m') := by
  rw [← eq_of_getD 0 hmm]
  refine ev_all (g := fun k i => spec_SameNetwork.l1 k i x l m x' l' m') _ (fun k => by simp [spec_SameNetwork.l1]) (fun i h hp => ⟨0, fun k _ => ?_⟩) (fun i h hp => ⟨0, fun k _ => ?_⟩)
  all_goals
    simp only [spec_SameNetwork.l1]
    rw [if_pos (by omega), if_pos (by omega), if_pos (by omega)]
  · refine Eq.trans (if_pos hp) ?_; rw [w64 (by omega)]; rfl
  · exact if_neg hp
theorem spec_same (x : Int) (l : List (S81)) (m : List Int) (x' : Int) (l' : List (S81)) (m' : List Int) (hl : l.length ≤ 1048576) (hm : m.length ≤ 1048576) :
    ∃ r, Ev (fun k => spec_SameNetwork.f k x l m x' l' m') r ∧ (r = true ↔ x = x' ∧ l = l' ∧ m = m') := by
  have hj : Ev (fun k => spec_SameNetwork.j0 k true x l m x' l' m') false := Ev.step (f := fun _ => some false) (fun k => by simp [spec_SameNetwork.j0]) (Ev.now _)
  unfold spec_SameNetwork.f
  by_cases h1 : x = x'
  · by_cases h2 : l.length = l'.length
    · by_cases h3 : m.length = m'.length
      · have : ((m.length : Int) != (m'.length : Int)) = false := by simp; omega
        rw [this]
        suffices hh : ∃ r, Ev (fun k => spec_SameNetwork.l0 k 0 x l m x' l' m') r ∧ (r = true ↔ x = x' ∧ l = l' ∧ m = m') by
          obtain ⟨r, h, h'⟩ := hh
          exact ⟨r, Ev.iteT h1 (Ev.iteT (by omega) (Ev.step (fun k => by simp [spec_SameNetwork.j0]) h)), h'⟩
        have : DecidablePred fun i => l.getD i z81 = l'.getD i z81 := fun _ => Classical.propDecidable _
        have step : ∀ i : Nat, i < l.length → l.getD i z81 = l'.getD i z81 → ∃ K, ∀ k, K ≤ k → spec_SameNetwork.l0 (k + 1) (i : Int) x l m x' l' m' = spec_SameNetwork.l0 k ((i + 1 : Nat) : Int) x l m x' l' m' := fun i h hp => ⟨0, fun k _ => by
          simp only [spec_SameNetwork.l0]
          rw [if_pos (by omega), if_pos (by omega), if_pos (by omega)]
          refine Eq.trans (if_neg (fun h => (node_ne _ _).1 h hp)) ?_; rw [w64 (by omega)]; rfl⟩
        rcases first_or_all (fun i => l.getD i z81 = l'.getD i z81) l.length with h | ⟨j, h4, h5, h6⟩
        · obtain ⟨r, h7, h8⟩ := spec_ints x l m x' l' m' hm h3
          obtain ⟨K, h7⟩ := h7
          refine ⟨r, ev_loop (g := fun k i => spec_SameNetwork.l0 k i x l m x' l' m') (fun i => (i : Int)) l.length ⟨K, fun k hk => ?_⟩ (fun i hi => step i hi (h i hi)), ?_⟩
          · show spec_SameNetwork.l0 (k + 1) _ _ _ _ _ _ _ = _
            simp only [spec_SameNetwork.l0]
            rw [if_neg (by omega)]
            exact h7 k hk
          · rw [h8, ← eq_of_getD z81 h2]; simp [h1]; exact fun _ => h
        · refine ⟨false, ev_loop (g := fun k i => spec_SameNetwork.l0 k i x l m x' l' m') (fun i => (i : Int)) j ⟨0, fun k _ => ?_⟩ (fun i hi => step i (by omega) (h6 i hi)), ?_⟩
          · simp only [spec_SameNetwork.l0]
            rw [if_pos (by omega), if_pos (by omega), if_pos (by omega)]
            exact if_pos ((node_ne _ _).2 h5)
          · simp only [Bool.false_eq_true, false_iff]
            rintro ⟨_, rfl, _⟩
            exact h5 rfl
      · have : ((m.length : Int) != (m'.length : Int)) = true := by simp; omega
        rw [this]
        exact ⟨false, Ev.iteT h1 (Ev.iteT (by omega) (hj)), by simp; intro _ _ h; exact h3 (by rw [h])⟩
    · exact ⟨false, Ev.iteT h1 (Ev.iteF (by omega) (hj)), by simp; intro _ h; exact absurd (by rw [h]) h2⟩
  · exact ⟨false, Ev.iteF h1 (hj), by simp [h1]⟩
theorem core (x0_0 : Int) (x0_1 : List (S81)) (x0_2 : List (Int)) (x1_0 : Int) (x1_1 : List (S81)) (x1_2 : List (Int)) (ox0_0 : (-128 ≤ x0_0 ∧ x0_0 ≤ 127)) (ox0_1 : ∀ y ∈ x0_1, ok81 y) (nx0_1 : x0_1.length ≤ 1048576) (ox0_2 : ∀ y ∈ x0_2, (-32768 ≤ y ∧ y ≤ 32767)) (nx0_2 : x0_2.length ≤ 1048576) (ox1_0 : (-128 ≤ x1_0 ∧ x1_0 ≤ 127)) (ox1_1 : ∀ y ∈ x1_1, ok81 y) (nx1_1 : x1_1.length ≤ 1048576) (ox1_2 : ∀ y ∈ x1_2, (-32768 ≤ y ∧ y ≤ 32767)) (nx1_2 : x1_2.length ≤ 1048576) : ∃ r : Bool, Ev (fun k => spec_SameNetwork.f k x0_0 x0_1 x0_2 x1_0 x1_1 x1_2) r ∧ Ev (fun k => impl_SameNetwork.f k x0_0 x0_1 x0_2 x1_0 x1_1 x1_2) r ∧ True := by
  obtain ⟨r, h5, h6⟩ := spec_same x0_0 x0_1 x0_2 x1_0 x1_1 x1_2 (by omega) (by omega)
  obtain ⟨q, h7, h8⟩ := impl_same x0_0 x0_1 x0_2 x1_0 x1_1 x1_2 (by omega) (by omega)
  obtain rfl := bool_same h6 h8
  exact ⟨r, h5, h7, trivial⟩

theorem FnExactSameNetwork : QFnExactSameNetwork.Pure := by
  rintro ⟨x0_0, x0_1, x0_2⟩ ⟨x1_0, x1_1, x1_2⟩ ⟨wx0_0, wx0_1, wx0_2⟩ ⟨wx1_0, wx1_1, wx1_2⟩
  have ox0_0 : (-128 ≤ x0_0 ∧ x0_0 ≤ 127) := i8b wx0_0
  obtain ⟨wx0_1, mx0_1⟩ := wx0_1
  have mx0_1 : x0_1.length ≤ 9223372036854775807 := mx0_1
  obtain ⟨wx0_2, mx0_2⟩ := wx0_2
  have mx0_2 : x0_2.length ≤ 9223372036854775807 := mx0_2
  have ox1_0 : (-128 ≤ x1_0 ∧ x1_0 ≤ 127) := i8b wx1_0
  obtain ⟨wx1_1, mx1_1⟩ := wx1_1
  have mx1_1 : x1_1.length ≤ 9223372036854775807 := mx1_1
  obtain ⟨wx1_2, mx1_2⟩ := wx1_2
  have mx1_2 : x1_2.length ≤ 9223372036854775807 := mx1_2
  refine Ev.rounds (r := true) ?_
  unfold laws_FnExactSameNetwork.f
  obtain ⟨r_0, e_0, c_0⟩ := szNetwork x0_0 x0_1 x0_2 (1048576) (by omega) mx0_1 mx0_2
  refine Ev.bindc e_0 ?_
  rcases c_0 with c_0 | ⟨rfl, c_0⟩
  · exact Ev.iteT c_0 (Ev.now _)
  refine Ev.iteF (by omega) ?_
  refine Ev.step (fun k => by rw [laws_FnExactSameNetwork.j0]) ?_
  try dsimp only
  obtain ⟨r_1, e_1, c_1⟩ := szNetwork x1_0 x1_1 x1_2 (1048576 - x0_1.length - x0_2.length) (by omega) mx1_1 mx1_2
  refine Ev.bindc e_1 ?_
  rcases c_1 with c_1 | ⟨rfl, c_1⟩
  · exact Ev.iteT c_1 (Ev.now _)
  refine Ev.iteF (by omega) ?_
  refine Ev.step (fun k => by rw [laws_FnExactSameNetwork.j1]) ?_
  try dsimp only
  refine Ev.bind (toNetwork _ _ _ (by first | omega | ((try dsimp only); (try simp only [List.length_map, List.length_range, List.length_nil]); omega) | (simp; omega)) (by first | omega | ((try dsimp only); (try simp only [List.length_map, List.length_range, List.length_nil]); omega) | (simp; omega))) ?_
  try dsimp only
  refine Ev.bind (toNetwork _ _ _ (by first | omega | ((try dsimp only); (try simp only [List.length_map, List.length_range, List.length_nil]); omega) | (simp; omega)) (by first | omega | ((try dsimp only); (try simp only [List.length_map, List.length_range, List.length_nil]); omega) | (simp; omega))) ?_
  try dsimp only
  obtain ⟨r0, hs, hi, hb⟩ := core x0_0 (x0_1.map cv131_81) x0_2 x1_0 (x1_1.map cv131_81) x1_2 ox0_0 (fun y hy => by obtain ⟨z, hz, rfl⟩ := List.mem_map.1 hy; exact okof131_81 (wx0_1 z hz)) (by first | omega | ((try dsimp only); (try simp only [List.length_map, List.length_range, List.length_nil]); omega) | (simp; omega)) (fun y hy => (i16b (wx0_2 y hy))) (by first | omega | ((try dsimp only); (try simp only [List.length_map, List.length_range, List.length_nil]); omega) | (simp; omega)) ox1_0 (fun y hy => by obtain ⟨z, hz, rfl⟩ := List.mem_map.1 hy; exact okof131_81 (wx1_1 z hz)) (by first | omega | ((try dsimp only); (try simp only [List.length_map, List.length_range, List.length_nil]); omega) | (simp; omega)) (fun y hy => (i16b (wx1_2 y hy))) (by first | omega | ((try dsimp only); (try simp only [List.length_map, List.length_range, List.length_nil]); omega) | (simp; omega))
  refine Ev.bind hs ?_
  try dsimp only
  refine Ev.bind (toNetwork _ _ _ (by first | omega | ((try dsimp only); (try simp only [List.length_map, List.length_range, List.length_nil]); omega) | (simp; omega)) (by first | omega | ((try dsimp only); (try simp only [List.length_map, List.length_range, List.length_nil]); omega) | (simp; omega))) ?_
  try dsimp only
  refine Ev.bind (toNetwork _ _ _ (by first | omega | ((try dsimp only); (try simp only [List.length_map, List.length_range, List.length_nil]); omega) | (simp; omega)) (by first | omega | ((try dsimp only); (try simp only [List.length_map, List.length_range, List.length_nil]); omega) | (simp; omega))) ?_
  try dsimp only
  refine Ev.bind hi ?_
  try dsimp only
  refine Ev.iteF (by first | (simp; done) | (first | omega | ((try dsimp only); (try simp only [List.length_map, List.length_range, List.length_nil]); omega) | (simp; omega))) ?_
  try dsimp only
  refine Ev.step (fun k => by rw [laws_FnExactSameNetwork.j2]) ?_
  try dsimp only
  refine Ev.bind (toNetwork _ _ _ (by first | omega | ((try dsimp only); (try simp only [List.length_map, List.length_range, List.length_nil]); omega) | (simp; omega)) (by first | omega | ((try dsimp only); (try simp only [List.length_map, List.length_range, List.length_nil]); omega) | (simp; omega))) ?_
  try dsimp only
  refine Ev.bind (eqNetwork _ _ _ (by first | omega | ((try dsimp only); (try simp only [List.length_map, List.length_range, List.length_nil]); omega) | (simp; omega)) (by first | omega | ((try dsimp only); (try simp only [List.length_map, List.length_range, List.length_nil]); omega) | (simp; omega))) ?_
  try dsimp only
  refine Ev.iteT (by first | rfl | (first | omega | ((try dsimp only); (try simp only [List.length_map, List.length_range, List.length_nil]); omega) | (simp; omega))) ?_
  try dsimp only
  refine Ev.step (fun k => by rw [laws_FnExactSameNetwork.j3]) ?_
  try dsimp only
  refine Ev.bind (toNetwork _ _ _ (by first | omega | ((try dsimp only); (try simp only [List.length_map, List.length_range, List.length_nil]); omega) | (simp; omega)) (by first | omega | ((try dsimp only); (try simp only [List.length_map, List.length_range, List.length_nil]); omega) | (simp; omega))) ?_
  try dsimp only
  refine Ev.bind (eqNetwork _ _ _ (by first | omega | ((try dsimp only); (try simp only [List.length_map, List.length_range, List.length_nil]); omega) | (simp; omega)) (by first | omega | ((try dsimp only); (try simp only [List.length_map, List.length_range, List.length_nil]); omega) | (simp; omega))) ?_
  try dsimp only
  refine Ev.iteT (by first | rfl | (first | omega | ((try dsimp only); (try simp only [List.length_map, List.length_range, List.length_nil]); omega) | (simp; omega))) ?_
  try dsimp only
  exact Ev.now _
end Go.Proofs.Ytmpmanfoiocfgaa.Pure
