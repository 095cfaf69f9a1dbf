/- The pure side of the law FnExactBothNetworks: for all arguments its Lean function answers true. No condition beside the arguments' kinds. -/
import Derived.Test.YtmpmanfoiocfgaaQFnExactBothNetworks
import Derived.Test.YtmpmanfoiocfgaaTFnExactBothNetworksa
namespace Go.Proofs.Ytmpmanfoiocfgaa.Pure
open Go.RowKit Go.Proofs.Ytmpmanfoiocfgaa.PFnExactBothNetworks Go.Proofs.YtmpmanfoiocfgaaW.PrintWords Go.Proofs.YtmpmanfoiocfgaaW.PrintLast Go.Proofs.YtmpmanfoiocfgaaX Go.Proofs.Ytmpmanfoiocfgaa.QFnExactBothNetworks Go.Proofs.YtmpmanfoiocfgaaB
set_option linter.unusedVariables false
set_option linter.unusedSimpArgs false

theorem szNodeS (l0 : List (S131)) (a_ : Int) (ha : 0 ≤ a_ ∧ a_ ≤ 1048576) (hl0 : l0.length ≤ 9223372036854775807) : ∃ r, laws_szNodeS.f l0 a_ = some r ∧ (r < 0 ∨ (r = a_ - l0.length ∧ 0 ≤ r)) := by
  unfold laws_szNodeS.f
  rw [w64 (n := a_ - l0.length) (by omega)]
  by_cases h : a_ - (l0.length : Int) < 0
  · exact ⟨-1, by rw [if_pos h], .inl (by omega)⟩
  · exact ⟨_, by rw [if_neg h], .inr ⟨rfl, by omega⟩⟩
theorem szInt16S (l0 : List (Int)) (a_ : Int) (ha : 0 ≤ a_ ∧ a_ ≤ 1048576) (hl0 : l0.length ≤ 9223372036854775807) : ∃ r, laws_szInt16S.f l0 a_ = some r ∧ (r < 0 ∨ (r = a_ - l0.length ∧ 0 ≤ r)) := by
  unfold laws_szInt16S.f
  rw [w64 (n := a_ - l0.length) (by omega)]
  by_cases h : a_ - (l0.length : Int) < 0
  · exact ⟨-1, by rw [if_pos h], .inl (by omega)⟩
  · exact ⟨_, by rw [if_neg h], .inr ⟨rfl, by omega⟩⟩
theorem szNetwork (a0_0 : Int) (l0_1 : List (S131)) (l0_2 : List (Int)) (a_ : Int) (ha : 0 ≤ a_ ∧ a_ ≤ 1048576) (hl0_1 : l0_1.length ≤ 9223372036854775807) (hl0_2 : l0_2.length ≤ 9223372036854775807) : ∃ r, laws_szNetwork.f a0_0 l0_1 l0_2 a_ = some r ∧ (r < 0 ∨ (r = a_ - l0_1.length - l0_2.length ∧ 0 ≤ r)) := by
  unfold laws_szNetwork.f
  obtain ⟨r0, e0, c0⟩ := szNodeS l0_1 (a_) (by omega) hl0_1
  rw [e0]
  simp only [Option.bind_some]
  rcases c0 with c0 | ⟨rfl, c0⟩
  · exact ⟨-1, by rw [if_pos c0], .inl (by omega)⟩
  rw [if_neg (by omega)]
  obtain ⟨r1, e1, c1⟩ := szInt16S l0_2 (a_ - l0_1.length) (by omega) hl0_2
  rw [e1]
  simp only [Option.bind_some]
  rcases c1 with c1 | ⟨rfl, c1⟩
  · exact ⟨-1, by rw [if_pos c1], .inl (by omega)⟩
  rw [if_neg (by omega)]
  exact ⟨_, rfl, .inr ⟨rfl, by omega⟩⟩
theorem toNode (a0_0 : Int) (a0_1 : Int) (a0_2 : Int)  : laws_toNode.f a0_0 a0_1 a0_2 = some (a0_0, a0_1, a0_2) := by
  unfold laws_toNode.f
  simp
def cv131_81 (x : S131) : S81 := ⟨x.f0, x.f1, x.f2⟩
theorem toNodeS (l0 : List (S131)) (hl0 : l0.length ≤ 1099511627776) : Ev (fun k => laws_toNodeS.f k l0) (l0.map cv131_81) := by
  suffices main : Ev (fun k => laws_toNodeS.f k l0) (l0.map cv131_81) by exact main
  unfold laws_toNodeS.f
  refine Ev.iteT (by omega) (Ev.iteT (by omega) ?_)
  rw [Int.toNat_natCast]
  refine ev_fill2 (g := fun k x i => laws_toNodeS.l0 k l0 x i) cv131_81 l0 _ (Ev.step (f := fun _ => some _) (fun k => by simp [laws_toNodeS.l0]) (Ev.now _)) fun i h x hx ih => ?_
  have eg : l0.getD i z131 = l0[i] := getD_at _ _ _ h
  refine Ev.step (fun k => by rw [laws_toNodeS.l0]) (Ev.iteT (by omega) (Ev.iteT (by omega) ?_))
  simp only [rd_T131, Int.toNat_natCast, eg]
  refine Ev.bindc (toNode _ _ _ ) ?_
  refine Ev.iteT (by omega) ?_
  rw [w64 (by omega)]
  exact ih
theorem toInt16S (l0 : List (Int)) (hl0 : l0.length ≤ 1099511627776) : Ev (fun k => laws_toInt16S.f k l0) l0 := by
  suffices main : Ev (fun k => laws_toInt16S.f k l0) (l0.map id) by rwa [List.map_id] at main
  unfold laws_toInt16S.f
  refine Ev.iteT (by omega) (Ev.iteT (by omega) ?_)
  rw [Int.toNat_natCast]
  refine ev_fill2 (g := fun k x i => laws_toInt16S.l0 k l0 x i) id l0 _ (Ev.step (f := fun _ => some _) (fun k => by simp [laws_toInt16S.l0]) (Ev.now _)) fun i h x hx ih => ?_
  have eg : l0.getD i (0 : Int) = l0[i] := getD_at _ _ _ h
  refine Ev.step (fun k => by rw [laws_toInt16S.l0]) (Ev.iteT (by omega) (Ev.iteT (by omega) ?_))
  simp only [rd, Int.toNat_natCast, eg]
  refine Ev.iteT (by omega) ?_
  rw [w64 (by omega)]
  exact ih
theorem toNetwork (a0_0 : Int) (l0_1 : List (S131)) (l0_2 : List (Int)) (hl0_1 : l0_1.length ≤ 1099511627776) (hl0_2 : l0_2.length ≤ 1099511627776) : Ev (fun k => laws_toNetwork.f k a0_0 l0_1 l0_2) (a0_0, (l0_1.map cv131_81), l0_2) := by
  unfold laws_toNetwork.f
  exact (Ev.bind (toNodeS _ (by first | omega | ((try dsimp only); (try simp only [List.length_map, List.length_range, List.length_nil]); omega) | (simp; omega))) (Ev.bind (toInt16S _ (by first | omega | ((try dsimp only); (try simp only [List.length_map, List.length_range, List.length_nil]); omega) | (simp; omega))) (Ev.now _)))
theorem eqNode (a0_0 : Int) (a0_1 : Int) (a0_2 : Int)  : laws_eqNode.f a0_0 a0_1 a0_2 a0_0 a0_1 a0_2 = some true := by
  unfold laws_eqNode.f
  simp
theorem eqNodeS (l0 : List (S81)) (hl0 : l0.length ≤ 1099511627776) : Ev (fun k => laws_eqNodeS.f k l0 l0) true := by
  unfold laws_eqNodeS.f
  refine Ev.iteT rfl ?_
  refine ev_loop2 (g := fun k i => laws_eqNodeS.l0 k l0 l0 i) (fun i => (i : Int)) l0.length (Ev.step (f := fun _ => some _) (fun k => by simp [laws_eqNodeS.l0]) (Ev.now _)) fun i h ih => ?_
  refine Ev.step (fun k => by rw [laws_eqNodeS.l0]) (Ev.iteT (by omega) (Ev.iteT (by omega) (Ev.iteT (by omega) ?_)))
  refine Ev.bindc (eqNode _ _ _ ) (Ev.iteT rfl ?_)
  rw [w64 (by omega)]
  exact ih
theorem eqInt16S (l0 : List (Int)) (hl0 : l0.length ≤ 1099511627776) : Ev (fun k => laws_eqInt16S.f k l0 l0) true := by
  unfold laws_eqInt16S.f
  refine Ev.iteT rfl ?_
  refine ev_loop2 (g := fun k i => laws_eqInt16S.l0 k l0 l0 i) (fun i => (i : Int)) l0.length (Ev.step (f := fun _ => some _) (fun k => by simp [laws_eqInt16S.l0]) (Ev.now _)) fun i h ih => ?_
  refine Ev.step (fun k => by rw [laws_eqInt16S.l0]) (Ev.iteT (by omega) (Ev.iteT (by omega) (Ev.iteT (by omega) ?_)))
  refine Ev.iteT rfl ?_
  rw [w64 (by omega)]
  exact ih
theorem eqNetwork (a0_0 : Int) (l0_1 : List (S81)) (l0_2 : List (Int)) (hl0_1 : l0_1.length ≤ 1099511627776) (hl0_2 : l0_2.length ≤ 1099511627776) : Ev (fun k => laws_eqNetwork.f k a0_0 l0_1 l0_2 a0_0 l0_1 l0_2) true := by
  unfold laws_eqNetwork.f
  exact (Ev.iteT rfl (Ev.bind (eqNodeS _ (by first | omega | ((try dsimp only); (try simp only [List.length_map, List.length_range, List.length_nil]); omega) | (simp; omega))) (Ev.iteT rfl (Ev.bind (eqInt16S _ (by first | omega | ((try dsimp only); (try simp only [List.length_map, List.length_range, List.length_nil]); omega) | (simp; omega))) (Ev.iteT rfl (Ev.now _))))))
def mk_NodeS (k : Int) : S81 := ⟨IntKind.i8.wrap k, IntKind.i16.wrap (k + 1), IntKind.i16.wrap (k + 2)⟩
theorem markNodeS (l0 : List (S81)) (k_ : Int) (hl0 : l0.length ≤ 1099511627776) (hk : 0 ≤ k_ ∧ (k_ + 3 * (l0.length : Int)) ≤ 4611686018427387904) : Ev (fun k => laws_markNodeS.f k l0 k_) ((k_ + 3 * (l0.length : Int)), ((List.range l0.length).map fun (j : Nat) => mk_NodeS (k_ + 3 * (j : Int)))) := by
  unfold laws_markNodeS.f
  refine ev_mark (g := fun k x q i => laws_markNodeS.l0 k x q i) mk_NodeS 3 l0 k_ (Ev.step (f := fun _ => some _) (fun k => by simp [laws_markNodeS.l0]) (Ev.now _)) fun i x h hx ih => ?_
  obtain ⟨q, hq⟩ : ∃ q, q = k_ + 3 * (i : Int) := ⟨_, rfl⟩
  rw [← hq] at ih ⊢
  have hqb : 0 ≤ q ∧ q + 3 ≤ 4611686018427387904 := by omega
  rw [show k_ + 3 * ((i + 1 : Nat) : Int) = q + 3 by omega] at ih
  have hi1 : ((i : Int) < (x.length : Int)) = True := eq_true (by omega)
  have hi0 : (0 ≤ (i : Int)) = True := eq_true (by omega)
  have hix : i < x.length := by omega
  have hs : ∀ a, (x.set i a).getD i z81 = a := fun a => getD_set x i z81 a hix
  obtain ⟨e0, e1, e2, ei⟩ : wrap64 (q + 1) = q + 1 ∧ wrap64 ((q + 1) + 1) = q + 2 ∧ wrap64 ((q + 2) + 1) = q + 3 ∧ wrap64 ((i : Int) + 1) = ((i + 1 : Nat) : Int) := ⟨wq (by omega) (by omega), wq (by omega) (by omega), wq (by omega) (by omega), wq (by omega) (by omega)⟩
  have st : ∀ k, laws_markNodeS.l0 (k + 1) x q (i : Int) = laws_markNodeS.l0 k (x.set i (mk_NodeS q)) (q + 3) ((i + 1 : Nat) : Int) := fun k => by
    simp only [laws_markNodeS.l0]
    simp only [e0, e1, e2, ei, hi1, hi0, if_true, if_false, Option.bind_some, Int.toNat_natCast, List.length_set, List.set_set, rd_T81, hs]
    rfl
  exact Ev.steps 1 st ih
def mk_Int16S (k : Int) : Int := IntKind.i16.wrap k
theorem markInt16S (l0 : List (Int)) (k_ : Int) (hl0 : l0.length ≤ 1099511627776) (hk : 0 ≤ k_ ∧ (k_ + 1 * (l0.length : Int)) ≤ 4611686018427387904) : Ev (fun k => laws_markInt16S.f k l0 k_) ((k_ + 1 * (l0.length : Int)), ((List.range l0.length).map fun (j : Nat) => mk_Int16S (k_ + 1 * (j : Int)))) := by
  unfold laws_markInt16S.f
  refine ev_mark (g := fun k x q i => laws_markInt16S.l0 k x q i) mk_Int16S 1 l0 k_ (Ev.step (f := fun _ => some _) (fun k => by simp [laws_markInt16S.l0]) (Ev.now _)) fun i x h hx ih => ?_
  obtain ⟨q, hq⟩ : ∃ q, q = k_ + 1 * (i : Int) := ⟨_, rfl⟩
  rw [← hq] at ih ⊢
  have hqb : 0 ≤ q ∧ q + 1 ≤ 4611686018427387904 := by omega
  rw [show k_ + 1 * ((i + 1 : Nat) : Int) = q + 1 by omega] at ih
  have hi1 : ((i : Int) < (x.length : Int)) = True := eq_true (by omega)
  have hi0 : (0 ≤ (i : Int)) = True := eq_true (by omega)
  have hix : i < x.length := by omega
  have hs : ∀ a, (x.set i a).getD i 0 = a := fun a => getD_set x i 0 a hix
  obtain ⟨e0, ei⟩ : wrap64 (q + 1) = q + 1 ∧ wrap64 ((i : Int) + 1) = ((i + 1 : Nat) : Int) := ⟨wq (by omega) (by omega), wq (by omega) (by omega)⟩
  have st : ∀ k, laws_markInt16S.l0 (k + 1) x q (i : Int) = laws_markInt16S.l0 k (x.set i (mk_Int16S q)) (q + 1) ((i + 1 : Nat) : Int) := fun k => by
    simp only [laws_markInt16S.l0]
    simp only [e0, ei, hi1, hi0, if_true, if_false, Option.bind_some, Int.toNat_natCast, List.length_set, List.set_set, rd, hs]
    rfl
  exact Ev.steps 1 st ih
theorem markNetwork (a0_0 : Int) (l0_1 : List (S81)) (l0_2 : List (Int)) (k_ : Int) (hl0_1 : l0_1.length ≤ 1099511627776) (hl0_2 : l0_2.length ≤ 1099511627776) (hk : 0 ≤ k_ ∧ k_ + 3 * (l0_1.length : Int) + 1 * (l0_2.length : Int) ≤ 4611686018427387904) : Ev (fun k => laws_markNetwork.f k a0_0 l0_1 l0_2 k_) (k_ + 3 * (l0_1.length : Int) + 1 * (l0_2.length : Int), ((List.range l0_1.length).map fun (j : Nat) => mk_NodeS (k_ + 3 * (j : Int))), ((List.range l0_2.length).map fun (j : Nat) => mk_Int16S (k_ + 3 * (l0_1.length : Int) + 1 * (j : Int)))) := by
  unfold laws_markNetwork.f
  exact Ev.bind (markNodeS _ _ (by omega) (by omega)) (Ev.bind (markInt16S _ _ (by omega) (by omega)) (Ev.now _))
theorem heldNodeS (n : Nat) (k_ : Int) (hn : n ≤ 1099511627776) (hk : 0 ≤ k_ ∧ k_ + 3 * (n : Int) ≤ 4611686018427387904) : Ev (fun k => laws_heldNodeS.f k ((List.range n).map fun (j : Nat) => mk_NodeS (k_ + 3 * (j : Int))) k_) (k_ + 3 * (n : Int)) := by
  unfold laws_heldNodeS.f
  obtain ⟨M, hM⟩ : ∃ M, M = ((List.range n).map fun (j : Nat) => mk_NodeS (k_ + 3 * (j : Int))) := ⟨_, rfl⟩
  rw [← hM]
  have hl : M.length = n := by rw [hM]; simp
  have hv : ∀ i, i < n → M.getD i z81 = mk_NodeS (k_ + 3 * (i : Int)) := fun i h => by rw [hM]; exact mark_at _ _ _ _ _ _ h
  clear hM
  have h0 := ev_loop2 (g := fun k (s : Int × Int) => laws_heldNodeS.l0 k M s.1 s.2) (fun i => (k_ + 3 * (i : Int), (i : Int))) n (r := k_ + 3 * (n : Int)) (Ev.step (f := fun _ => some _) (fun k => by simp [laws_heldNodeS.l0, hl]) (Ev.now _)) fun i h ih => ?_
  · simpa using h0
  dsimp only at ih ⊢
  have hs := hv i h
  obtain ⟨q, hq⟩ : ∃ q, q = k_ + 3 * (i : Int) := ⟨_, rfl⟩
  rw [← hq] at hs ⊢
  rw [show k_ + 3 * ((i + 1 : Nat) : Int) = q + 3 by omega] at ih
  have hqb : 0 ≤ q ∧ q + 3 ≤ 4611686018427387904 := by omega
  have hi1 : ((i : Int) < (M.length : Int)) = True := eq_true (by omega)
  have hi0 : (0 ≤ (i : Int)) = True := eq_true (by omega)
  obtain ⟨e0, e1, e2, ei⟩ : wrap64 (q + 1) = q + 1 ∧ wrap64 ((q + 1) + 1) = q + 2 ∧ wrap64 ((q + 2) + 1) = q + 3 ∧ wrap64 ((i : Int) + 1) = ((i + 1 : Nat) : Int) := ⟨wq (by omega) (by omega), wq (by omega) (by omega), wq (by omega) (by omega), wq (by omega) (by omega)⟩
  have st : ∀ k, laws_heldNodeS.l0 (k + 1) M q (i : Int) = laws_heldNodeS.l0 k M (q + 3) ((i + 1 : Nat) : Int) := fun k => by
    simp only [laws_heldNodeS.l0]
    simp only [e0, e1, e2, ei, hi1, hi0, if_true, if_false, Option.bind_some, Int.toNat_natCast, List.length_set, List.set_set, rd_T81, hs, mk_NodeS]
  exact Ev.steps 1 st ih
theorem heldInt16S (n : Nat) (k_ : Int) (hn : n ≤ 1099511627776) (hk : 0 ≤ k_ ∧ k_ + 1 * (n : Int) ≤ 4611686018427387904) : Ev (fun k => laws_heldInt16S.f k ((List.range n).map fun (j : Nat) => mk_Int16S (k_ + 1 * (j : Int))) k_) (k_ + 1 * (n : Int)) := by
  unfold laws_heldInt16S.f
  obtain ⟨M, hM⟩ : ∃ M, M = ((List.range n).map fun (j : Nat) => mk_Int16S (k_ + 1 * (j : Int))) := ⟨_, rfl⟩
  rw [← hM]
  have hl : M.length = n := by rw [hM]; simp
  have hv : ∀ i, i < n → M.getD i 0 = mk_Int16S (k_ + 1 * (i : Int)) := fun i h => by rw [hM]; exact mark_at _ _ _ _ _ _ h
  clear hM
  have h0 := ev_loop2 (g := fun k (s : Int × Int) => laws_heldInt16S.l0 k M s.1 s.2) (fun i => (k_ + 1 * (i : Int), (i : Int))) n (r := k_ + 1 * (n : Int)) (Ev.step (f := fun _ => some _) (fun k => by simp [laws_heldInt16S.l0, hl]) (Ev.now _)) fun i h ih => ?_
  · simpa using h0
  dsimp only at ih ⊢
  have hs := hv i h
  obtain ⟨q, hq⟩ : ∃ q, q = k_ + 1 * (i : Int) := ⟨_, rfl⟩
  rw [← hq] at hs ⊢
  rw [show k_ + 1 * ((i + 1 : Nat) : Int) = q + 1 by omega] at ih
  have hqb : 0 ≤ q ∧ q + 1 ≤ 4611686018427387904 := by omega
  have hi1 : ((i : Int) < (M.length : Int)) = True := eq_true (by omega)
  have hi0 : (0 ≤ (i : Int)) = True := eq_true (by omega)
  obtain ⟨e0, ei⟩ : wrap64 (q + 1) = q + 1 ∧ wrap64 ((i : Int) + 1) = ((i + 1 : Nat) : Int) := ⟨wq (by omega) (by omega), wq (by omega) (by omega)⟩
  have st : ∀ k, laws_heldInt16S.l0 (k + 1) M q (i : Int) = laws_heldInt16S.l0 k M (q + 1) ((i + 1 : Nat) : Int) := fun k => by
    simp only [laws_heldInt16S.l0]
    simp only [e0, ei, hi1, hi0, if_true, if_false, Option.bind_some, Int.toNat_natCast, List.length_set, List.set_set, rd, hs, mk_Int16S]
  exact Ev.steps 1 st ih
theorem heldNetwork (a0_0 : Int) (nl0_1 : Nat) (nl0_2 : Nat) (k_ : Int) (hl0_1 : nl0_1 ≤ 1099511627776) (hl0_2 : nl0_2 ≤ 1099511627776) (hk : 0 ≤ k_ ∧ k_ + 3 * (nl0_1 : Int) + 1 * (nl0_2 : Int) ≤ 4611686018427387904) : Ev (fun k => laws_heldNetwork.f k a0_0 ((List.range nl0_1).map fun (j : Nat) => mk_NodeS (k_ + 3 * (j : Int))) ((List.range nl0_2).map fun (j : Nat) => mk_Int16S (k_ + 3 * (nl0_1 : Int) + 1 * (j : Int))) k_) (k_ + 3 * (nl0_1 : Int) + 1 * (nl0_2 : Int)) := by
  unfold laws_heldNetwork.f
  exact Ev.bind (heldNodeS _ _ (by omega) (by omega)) (Ev.iteF (by omega) (Ev.bind (heldInt16S _ _ (by omega) (by omega)) (Ev.iteF (by omega) (Ev.now _))))
def ok81 (x : S81) : Prop := (-128 ≤ x.f0 ∧ x.f0 ≤ 127) ∧ (-32768 ≤ x.f1 ∧ x.f1 ≤ 32767) ∧ (-32768 ≤ x.f2 ∧ x.f2 ≤ 32767)
theorem okof131_81 {x : S131} (h : wf131 x) : ok81 (cv131_81 x) := by
  obtain ⟨h0, h1, h2⟩ := h
  exact ⟨(i8b h0), (i16b h1), (i16b h2)⟩
/-- What a node at place j may be, of a network with n inputs. -/
def NodeOk (n j : Int) (x : S81) : Prop := (x.f0 = 0 ∧ 0 ≤ x.f1 ∧ x.f1 < n ∧ x.f2 = 0) ∨ (x.f0 = 1 ∧ x.f1 = 0 ∧ x.f2 = 0) ∨ ((x.f0 = 2 ∨ x.f0 = 3) ∧ 0 ≤ x.f1 ∧ x.f1 < j ∧ 0 ≤ x.f2 ∧ x.f2 < j)
structure NetOk (n : Int) (l : List (S81)) (m : List Int) : Prop where
  inputs : 1 ≤ n ∧ n ≤ 6
  len : 1 ≤ l.length ∧ l.length ≤ 80
  outs : 1 ≤ m.length ∧ m.length ≤ 8
  node : ∀ i : Nat, i < l.length → NodeOk n i (l.getD i z81)
  out : ∀ i : Nat, i < m.length → 0 ≤ m.getD i 0 ∧ m.getD i 0 < l.length
theorem in_same : spec_l00In.f = impl_in.f := rfl
theorem in_some (a b c : Int) : impl_in.f a b c = some (decide (b ≤ a ∧ a ≤ c)) := by
  unfold impl_in.f
  by_cases h : b ≤ a <;> simp [h]
theorem rd0 (n : Int) (l : List (S81)) (m : List Int) : rd_T31 [(⟨n, l, m⟩ : S31)] 0 = ⟨n, l, m⟩ := id rfl
theorem rdn (l : List (S81)) (i : Nat) : rd_T81 l (i : Int) = l.getD i z81 := id rfl
theorem rdi (l : List Int) (i : Nat) : rd l (i : Int) = l.getD i 0 := id rfl
theorem ok_at {l : List (S81)} (h : ∀ y ∈ l, ok81 y) (i : Nat) : ok81 (l.getD i z81) := by
  by_cases hi : i < l.length
  · rw [getD_at _ _ _ hi]; exact h _ (List.getElem_mem hi)
  · rw [List.getD_eq_getElem?_getD, List.getElem?_eq_none (by omega)]; simp [ok81, z81]
theorem i16_at {l : List Int} (h : ∀ y ∈ l, -32768 ≤ y ∧ y ≤ 32767) (i : Nat) : -32768 ≤ l.getD i 0 ∧ l.getD i 0 ≤ 32767 := by
  by_cases hi : i < l.length
  · rw [getD_at _ _ _ hi]; exact h _ (List.getElem_mem hi)
  · rw [List.getD_eq_getElem?_getD, List.getElem?_eq_none (by omega)]; simp
theorem spec_node (n : Int) (l : List (S81)) (m : List Int) (hn : -128 ≤ n ∧ n ≤ 127) (hx : ∀ y ∈ l, ok81 y) (i : Nat) (hi : i < l.length) :
    ∃ r, spec_l04Node.f [(⟨n, l, m⟩ : S31)] i = some r ∧ (r = true ↔ NodeOk n i (l.getD i z81)) := by
  have hb := ok_at hx i
  obtain ⟨⟨x0, x1, x2⟩, hX⟩ : ∃ x, x = l.getD i z81 := ⟨_, rfl⟩
  unfold spec_l04Node.f NodeOk
  simp only [rd0, rdn]
  rw [← hX] at hb ⊢
  obtain ⟨b0, b1, b2⟩ := hb
  dsimp only at b0 b1 b2 ⊢
  rw [if_pos (by simp), if_pos (by omega), if_pos (by omega), w16 (n := n) (by omega), w64 (n := x1) (by omega), w64 (n := x2) (by omega)]
  by_cases h0 : x0 = 0
  · subst h0
    by_cases h1 : x1 ≥ 0 <;> by_cases h2 : x1 < n <;> simp [h1, h2] <;> omega
  · by_cases h1 : x0 = 1
    · subst h1
      by_cases h2 : x1 = 0 <;> simp [h2]
    · by_cases h2 : x0 = 2
      · subst h2
        by_cases h3 : x1 ≥ 0 <;> by_cases h4 : x1 < (i : Int) <;> by_cases h5 : x2 ≥ 0 <;> simp [h3, h4, h5] <;> omega
      · by_cases h2 : x0 = 3
        · subst h2
          by_cases h3 : x1 ≥ 0 <;> by_cases h4 : x1 < (i : Int) <;> by_cases h5 : x2 ≥ 0 <;> simp [h3, h4, h5] <;> omega
        · exact ⟨false, by simp [*], by simp; omega⟩
theorem impl_node (n : Int) (x : S81) (hn : -128 ≤ n ∧ n ≤ 127) (hx : ok81 x) (i : Nat) (hi : i ≤ 1048576) :
    ∃ r, Ev (fun k => impl_Node_ok.f k x.f0 x.f1 x.f2 (wrap64 n) i) r ∧ (r = true ↔ NodeOk n i x) := by
  obtain ⟨x0, x1, x2⟩ := x
  obtain ⟨b0, b1, b2⟩ := hx
  unfold impl_Node_ok.f NodeOk
  dsimp only at b0 b1 b2 ⊢
  rw [w64 (n := n) (by omega), w64 (n := x1) (by omega), w64 (n := x2) (by omega), w64 (n := n - 1) (by omega)]
  have hj : ∀ b, Ev (fun k => impl_Node_ok.j0 k i x1 x2 b) (b && (decide (0 ≤ x1 ∧ x1 ≤ (i : Int) - 1) && decide (0 ≤ x2 ∧ x2 ≤ (i : Int) - 1))) := by
    intro b
    refine Ev.step (f := fun _ => some (b && (decide (0 ≤ x1 ∧ x1 ≤ (i : Int) - 1) && decide (0 ≤ x2 ∧ x2 ≤ (i : Int) - 1)))) (fun k => ?_) (Ev.now _)
    simp only [impl_Node_ok.j0, in_some, Option.bind_some]
    rw [w64 (by omega)]
    cases b <;> by_cases h : 0 ≤ x1 ∧ x1 ≤ (i : Int) - 1 <;> simp [h]
  by_cases h0 : x0 = 0
  · subst h0
    refine ⟨_, Ev.iteT rfl (Ev.bindc (in_some _ _ _) (ev_const (r := decide (0 ≤ x1 ∧ x1 ≤ n - 1) && (x2 == 0)) ?_)), ?_⟩
    · by_cases h : 0 ≤ x1 ∧ x1 ≤ n - 1 <;> simp [h]
    · simp; omega
  · by_cases h1 : x0 = 1
    · subst h1
      refine ⟨_, Ev.iteF (by simp) (Ev.iteT rfl (ev_const (r := decide (x1 = 0) && (x2 == 0)) ?_)), ?_⟩
      · by_cases h : x1 = 0 <;> simp [h]
      · simp
    · by_cases h2 : x0 = 2
      · exact ⟨_, Ev.iteF h0 (Ev.iteF h1 (Ev.iteT h2 (hj _))), by subst h2; simp; omega⟩
      · exact ⟨_, Ev.iteF h0 (Ev.iteF h1 (Ev.iteF h2 (hj _))), by simp; omega⟩
theorem spec_ok (n : Int) (l : List (S81)) (m : List Int) (hn : -128 ≤ n ∧ n ≤ 127) (hx : ∀ y ∈ l, ok81 y) (hl : l.length ≤ 1048576) (hy : ∀ y ∈ m, -32768 ≤ y ∧ y ≤ 32767) (hm : m.length ≤ 1048576) :
    ∃ r, Ev (fun k => spec_l04Ok.f k [(⟨n, l, m⟩ : S31)]) r ∧ (r = true ↔ NetOk n l m) := by
  have hj : Ev (fun k => spec_l04Ok.j0 k [(⟨n, l, m⟩ : S31)] true) false := Ev.step (f := fun _ => some false) (fun k => by simp [spec_l04Ok.j0]) (Ev.now _)
  unfold spec_l04Ok.f
  simp only [in_same, in_some, rd0]
  rw [w64 (n := n) (by omega)]
  by_cases h1 : 1 ≤ n ∧ n ≤ 6
  · by_cases h2 : 1 ≤ (l.length : Int) ∧ (l.length : Int) ≤ 80
    · by_cases h3 : 1 ≤ (m.length : Int) ∧ (m.length : Int) ≤ 8
      · have hout : ∃ r, Ev (fun k => spec_l04Ok.l1 k [(⟨n, l, m⟩ : S31)] 0) r ∧ (r = true ↔ ∀ i : Nat, i < m.length → 0 ≤ m.getD i 0 ∧ m.getD i 0 < l.length) := by
          refine ev_all (g := fun k i => spec_l04Ok.l1 k [(⟨n, l, m⟩ : S31)] i) _ (fun k => by simp [spec_l04Ok.l1, rd0]) (fun i h hp => ⟨0, fun k _ => ?_⟩) (fun i h hp => ⟨0, fun k _ => ?_⟩)
          all_goals
            have hb := i16_at hy i
            simp only [spec_l04Ok.l1, rd0, rdi]
            rw [if_pos (by simp), if_pos (by omega), if_pos (by omega), w64 (n := m.getD i 0) (by omega)]
          · rw [if_neg (by omega), if_neg (by omega), w64 (by omega)]; rfl
          · by_cases h4 : m.getD i 0 < 0
            · rw [if_pos h4]
            · rw [if_neg h4, if_pos (by omega)]
        obtain ⟨r, h4, h5⟩ := hout
        have hnode : ∃ r, Ev (fun k => spec_l04Ok.l0 k [(⟨n, l, m⟩ : S31)] 0) r ∧ (r = true ↔ (∀ i : Nat, i < l.length → NodeOk n i (l.getD i z81)) ∧ ∀ i : Nat, i < m.length → 0 ≤ m.getD i 0 ∧ m.getD i 0 < l.length) := by
          refine ev_scanB (g := fun k i => spec_l04Ok.l0 k [(⟨n, l, m⟩ : S31)] i) (fun i => NodeOk n i (l.getD i z81)) h5 (fun _ => ?_) (fun i h hp s hs => ?_) (fun i h hp => ?_)
          · refine Ev.step (fun k => by rw [spec_l04Ok.l0]) ?_
            simp only [rd0]
            exact Ev.iteT (by simp) (Ev.iteF (by omega) h4)
          all_goals
            obtain ⟨q, h6, h7⟩ := spec_node n l m hn hx i h
            refine Ev.step (fun k => by rw [spec_l04Ok.l0]) ?_
            simp only [rd0]
            refine Ev.iteT (by simp) (Ev.iteT (by omega) (Ev.bindc h6 ?_))
          · refine Ev.iteT (h7.2 hp) ?_
            rw [w64 (by omega)]
            exact hs
          · exact Ev.iteF (fun h => hp (h7.1 h)) (Ev.now _)
        obtain ⟨s, h6, h7⟩ := hnode
        refine ⟨s, Ev.iteT (by simp) (Ev.bindc rfl (Ev.iteT (by simpa using h1) (Ev.bindc rfl (Ev.iteT (by simpa using h2) (Ev.bindc rfl ?_))))), ?_⟩
        · refine Ev.step (fun k => by rw [spec_l04Ok.j0]) (Ev.iteF (by simp; omega) h6)
        · rw [h7]; exact ⟨fun h => ⟨h1, by omega, by omega, h.1, h.2⟩, fun h => ⟨h.node, h.out⟩⟩
      · refine ⟨false, Ev.iteT (by simp) (Ev.bindc rfl (Ev.iteT (by simpa using h1) (Ev.bindc rfl (Ev.iteT (by simpa using h2) (Ev.bindc rfl ?_))))), ?_⟩
        · rw [show (!decide (1 ≤ (m.length : Int) ∧ (m.length : Int) ≤ 8)) = true by rw [decide_eq_false h3]; rfl]; exact hj
        · simp only [Bool.false_eq_true, false_iff]; intro h; have := h.outs; omega
    · refine ⟨false, Ev.iteT (by simp) (Ev.bindc rfl (Ev.iteT (by simpa using h1) (Ev.bindc rfl (Ev.iteF (by simpa using h2) hj)))), ?_⟩
      simp only [Bool.false_eq_true, false_iff]; intro h; have := h.len; omega
  · refine ⟨false, Ev.iteT (by simp) (Ev.bindc rfl (Ev.iteF (by simpa using h1) hj)), ?_⟩
    simp only [Bool.false_eq_true, false_iff]; intro h; have := h.inputs; omega
theorem impl_out (n : Int) (l : List (S81)) (m : List Int) (hl : l.length ≤ 1048576) (hl0 : 1 ≤ l.length) (hy : ∀ y ∈ m, -32768 ≤ y ∧ y ≤ 32767) (hm : m.length ≤ 1048576) :
    ∃ r, Ev (fun k => slices_ContainsFunc__impl_ValidNetwork_1.f k m [(⟨n, l, m⟩ : S31)]) r ∧ (r = false ↔ ∀ i : Nat, i < m.length → 0 ≤ m.getD i 0 ∧ m.getD i 0 < l.length) := by
  unfold slices_ContainsFunc__impl_ValidNetwork_1.f slices_IndexFunc__impl_ValidNetwork_1.f
  have hv : ∀ i : Nat, i < m.length → impl_ValidNetwork_1.f (rd m i) [(⟨n, l, m⟩ : S31)] = some (!decide (0 ≤ m.getD i 0 ∧ m.getD i 0 < l.length)) := fun i hi => by
    have hb := i16_at hy i
    unfold impl_ValidNetwork_1.f
    simp only [rd0, rdi, in_some, Option.bind_some]
    rw [if_pos (by simp), w64 (n := m.getD i 0) (by omega), w64 (by omega)]
    congr 3
    simp; omega
  rcases first_or_all (fun i => 0 ≤ m.getD i 0 ∧ m.getD i 0 < (l.length : Int)) m.length with h | ⟨j, h1, h2, h3⟩
  · refine ⟨false, Ev.bind (a := -1) (ev_loop2 (g := fun k i => slices_IndexFunc__impl_ValidNetwork_1.l0 k m m.length i [(⟨n, l, m⟩ : S31)]) (fun i => (i : Int)) m.length ?_ fun i hi ih => ?_) (ev_const (by simp)), by simpa using h⟩
    · refine Ev.step (fun k => by rw [slices_IndexFunc__impl_ValidNetwork_1.l0]) ?_
      exact Ev.iteF (by omega) (Ev.now _)
    · refine Ev.step (fun k => by rw [slices_IndexFunc__impl_ValidNetwork_1.l0]) ?_
      refine Ev.iteT (by omega) (Ev.iteT (by omega) (Ev.iteT (by omega) (Ev.bindc (hv i hi) (Ev.iteF (by simpa using h i hi) ?_))))
      rw [w64 (by omega)]
      exact ih
  · refine ⟨true, Ev.bind (a := (j : Int)) (ev_loop2 (g := fun k i => slices_IndexFunc__impl_ValidNetwork_1.l0 k m m.length i [(⟨n, l, m⟩ : S31)]) (fun i => (i : Int)) j ?_ fun i hi ih => ?_) (ev_const (by simp)), ?_⟩
    · refine Ev.step (fun k => by rw [slices_IndexFunc__impl_ValidNetwork_1.l0]) ?_
      exact Ev.iteT (by omega) (Ev.iteT (by omega) (Ev.iteT (by omega) (Ev.bindc (hv j h1) (Ev.iteT (by rw [decide_eq_false h2]; rfl) (Ev.now _)))))
    · refine Ev.step (fun k => by rw [slices_IndexFunc__impl_ValidNetwork_1.l0]) ?_
      refine Ev.iteT (by omega) (Ev.iteT (by omega) (Ev.iteT (by omega) (Ev.bindc (hv i (by omega)) (Ev.iteF (by simpa using h3 i hi) ?_))))
      rw [w64 (by omega)]
      exact ih
    · simp only [Bool.true_eq_false, false_iff]; exact fun h => h2 (h j h1)
theorem impl_ok (n : Int) (l : List (S81)) (m : List Int) (hn : -128 ≤ n ∧ n ≤ 127) (hx : ∀ y ∈ l, ok81 y) (hl : l.length ≤ 1048576) (hy : ∀ y ∈ m, -32768 ≤ y ∧ y ≤ 32767) (hm : m.length ≤ 1048576) :
    ∃ r, Ev (fun k => impl_ValidNetwork.f k n l m) r ∧ (r = true ↔ NetOk n l m) := by
  have hj : Ev (fun k => impl_ValidNetwork.j0 k true n l m) false := Ev.step (f := fun _ => some false) (fun k => by simp [impl_ValidNetwork.j0]) (Ev.now _)
  unfold impl_ValidNetwork.f
  simp only [in_some]
  rw [w64 (n := n) (by omega)]
  by_cases h1 : 1 ≤ n ∧ n ≤ 6
  · by_cases h2 : 1 ≤ (l.length : Int) ∧ (l.length : Int) ≤ 80
    · by_cases h3 : 1 ≤ (m.length : Int) ∧ (m.length : Int) ≤ 8
      · obtain ⟨r, h4, h5⟩ := impl_out n l m hl (by omega) hy hm
        have h5 : (!r) = true ↔ ∀ i : Nat, i < m.length → 0 ≤ m.getD i 0 ∧ m.getD i 0 < l.length := by rw [← h5]; simp
        have hnode : ∃ r, Ev (fun k => impl_ValidNetwork.l0 k l l.length 0 n l m) r ∧ (r = true ↔ (∀ i : Nat, i < l.length → NodeOk n i (l.getD i z81)) ∧ ∀ i : Nat, i < m.length → 0 ≤ m.getD i 0 ∧ m.getD i 0 < l.length) := by
          refine ev_scanB (g := fun k i => impl_ValidNetwork.l0 k l l.length i n l m) (fun i => NodeOk n i (l.getD i z81)) h5 (fun _ => ?_) (fun i h hp s hs => ?_) (fun i h hp => ?_)
          · refine Ev.step (fun k => by rw [impl_ValidNetwork.l0]) ?_
            exact Ev.iteF (by omega) (Ev.bind h4 (Ev.now _))
          all_goals
            obtain ⟨q, h6, h7⟩ := impl_node n (l.getD i z81) hn (ok_at hx i) i (by omega)
            refine Ev.step (fun k => by rw [impl_ValidNetwork.l0]) ?_
            simp only [rdn]
            refine Ev.iteT (by omega) (Ev.iteT (by omega) (Ev.iteT (by omega) (Ev.bind h6 ?_)))
          · refine Ev.iteT (h7.2 hp) ?_
            rw [w64 (by omega)]
            exact hs
          · exact Ev.iteF (fun h => hp (h7.1 h)) (Ev.now _)
        obtain ⟨s, h6, h7⟩ := hnode
        refine ⟨s, (Ev.bindc rfl (Ev.iteT (by simpa using h1) (Ev.bindc rfl (Ev.iteT (by simpa using h2) (Ev.bindc rfl ?_))))), ?_⟩
        · refine Ev.step (fun k => by rw [impl_ValidNetwork.j0]) (Ev.iteF (by simp; omega) h6)
        · rw [h7]; exact ⟨fun h => ⟨h1, by omega, by omega, h.1, h.2⟩, fun h => ⟨h.node, h.out⟩⟩
      · refine ⟨false, (Ev.bindc rfl (Ev.iteT (by simpa using h1) (Ev.bindc rfl (Ev.iteT (by simpa using h2) (Ev.bindc rfl ?_))))), ?_⟩
        · rw [show (!decide (1 ≤ (m.length : Int) ∧ (m.length : Int) ≤ 8)) = true by rw [decide_eq_false h3]; rfl]; exact hj
        · simp only [Bool.false_eq_true, false_iff]; intro h; have := h.outs; omega
    · refine ⟨false, (Ev.bindc rfl (Ev.iteT (by simpa using h1) (Ev.bindc rfl (Ev.iteF (by simpa using h2) hj)))), ?_⟩
      simp only [Bool.false_eq_true, false_iff]; intro h; have := h.len; omega
  · refine ⟨false, (Ev.bindc rfl (Ev.iteF (by simpa using h1) hj)), ?_⟩
    simp only [Bool.false_eq_true, false_iff]; intro h; have := h.inputs; omega

/-- A loop that appends what is made of each element; told from its end. -/
theorem ev_app {α β ρ : Type} (f : α → β) (l : List α) {g : Nat → Int → List β → Option ρ} {r : ρ} (hend : Ev (fun k => g k (l.length : Int) (l.map f)) r)
    (hs : ∀ (i : Nat) (h : i < l.length) (x : List β), x.length = i → Ev (fun k => g k ((i + 1 : Nat) : Int) (x ++ [f l[i]])) r → Ev (fun k => g k (i : Int) x) r) : Ev (fun k => g k 0 []) r := by
  have h := ev_loop2 (g := fun k (s : Int × List β) => g k s.1 s.2) (fun i => ((i : Int), (l.take i).map f)) l.length (r := r) (by simpa using hend) (fun i hi ih => by
    dsimp only at ih ⊢
    refine hs i hi _ (by simp; omega) ?_
    rw [List.take_succ_eq_append_getElem hi, List.map_append] at ih
    exact ih)
  simpa using h
/-- A node whose A and B stand at other places. -/
def ren (x5 : List Int) (x : S81) : S81 := if x.f0 ≥ 2 then ⟨x.f0, rd x5 x.f1, rd x5 x.f2⟩ else x
theorem renamed_ok (n : Int) (i : Nat) (x : S81) (x5 : List Int) (h : NodeOk n i x) (hl : x5.length = i) : impl_Node_renamed.f x.f0 x.f1 x.f2 x5 = some ((ren x5 x).f0, (ren x5 x).f1, (ren x5 x).f2) := by
  obtain ⟨x0, x1, x2⟩ := x
  unfold impl_Node_renamed.f impl_Node_inner.f ren
  rcases h with ⟨a, b, c, d⟩ | ⟨a, b, c⟩ | ⟨a, b1, b2, b3, b4⟩
  · dsimp only at a; subst a; simp
  · dsimp only at a; subst a; simp
  · dsimp only at a b1 b2 b3 b4
    have c1 : x1 < (x5.length : Int) := by omega
    have c2 : x2 < (x5.length : Int) := by omega
    rcases a with rfl | rfl <;> simp [b1, b3, c1, c2]
theorem rd_in {x5 : List Int} {N : Int} (h : ∀ y ∈ x5, 0 ≤ y ∧ y < N) (a : Int) (h0 : 0 ≤ a) (h1 : a < (x5.length : Int)) : 0 ≤ rd x5 a ∧ rd x5 a < N := by
  obtain ⟨j, rfl⟩ := Int.eq_ofNat_of_zero_le h0
  exact getD_mem (p := fun y => 0 ≤ y ∧ y < N) h 0 j (by omega)
theorem ren_ok (n : Int) (i : Nat) (x : S81) (x5 : List Int) (N : Nat) (h : NodeOk n i x) (hl : x5.length = i) (hv : ∀ y ∈ x5, 0 ≤ y ∧ y < (N : Int)) : NodeOk n N (ren x5 x) := by
  obtain ⟨x0, x1, x2⟩ := x
  unfold ren
  rcases h with ⟨a, b, c, d⟩ | ⟨a, b, c⟩ | ⟨a, b1, b2, b3, b4⟩
  · dsimp only at a; subst a; exact .inl ⟨rfl, b, c, d⟩
  · dsimp only at a; subst a; exact .inr (.inl ⟨rfl, b, c⟩)
  · dsimp only at a b1 b2 b3 b4
    have h1 := rd_in hv x1 b1 (by omega)
    have h2 := rd_in hv x2 b3 (by omega)
    rw [if_pos (by dsimp only; omega)]
    exact .inr (.inr ⟨a, h1.1, h1.2, h2.1, h2.2⟩)
/-- The outputs at their places. -/
def outs (x5 m : List Int) : List Int := m.map fun y => rd x5 y
theorem outs_in {x5 m : List Int} {N : Int} (h : ∀ y ∈ x5, 0 ≤ y ∧ y < N) (ho : ∀ i : Nat, i < m.length → 0 ≤ m.getD i 0 ∧ m.getD i 0 < (x5.length : Int)) (i : Nat) (hi : i < (outs x5 m).length) : 0 ≤ (outs x5 m).getD i 0 ∧ (outs x5 m).getD i 0 < N := by
  have hi' : i < m.length := by simpa [outs] using hi
  have e : (outs x5 m).getD i 0 = rd x5 m[i] := by
    unfold outs
    rw [getD_at _ _ _ (by simpa using hi')]
    simp
  have := ho i hi'
  rw [getD_at _ _ _ hi'] at this
  rw [e]
  exact rd_in h _ this.1 this.2
theorem impl_outs (x5 m : List Int) (ho : ∀ i : Nat, i < m.length → 0 ≤ m.getD i 0 ∧ m.getD i 0 < (x5.length : Int)) (hm : m.length ≤ 8) : Ev (fun k => impl_renamedAll.f k m x5) (outs x5 m) := by
  unfold impl_renamedAll.f
  refine ev_app (fun y => rd x5 y) m (g := fun k i x => impl_renamedAll.l0 k x5 x m m.length i) ?_ fun i hi x hx ih => ?_
  · refine Ev.step (fun k => by rw [impl_renamedAll.l0]) ?_
    exact Ev.iteF (by omega) (Ev.now _)
  · have h := ho i hi
    have e : m.getD i 0 = m[i] := getD_at _ _ _ hi
    refine Ev.step (fun k => by rw [impl_renamedAll.l0]) ?_
    simp only [rdi]
    rw [w64 (n := (i : Int) + 1) (by omega)]
    rw [e] at h ⊢
    exact Ev.iteT (by omega) (Ev.iteT (by omega) (Ev.iteT (by omega) (Ev.iteT h.1 (Ev.iteT h.2 (Ev.iteT (by omega) ih)))))

/-- A loop that appends what is made of each element to a list that is there; told from its end. -/
theorem ev_apq {α β ρ : Type} (f : α → β) (l : List α) (y : List β) {g : Nat → Int → List β → Option ρ} {r : ρ} (hend : Ev (fun k => g k (l.length : Int) (y ++ l.map f)) r)
    (hs : ∀ (i : Nat) (h : i < l.length) (x : List β), x.length = y.length + i → Ev (fun k => g k ((i + 1 : Nat) : Int) (x ++ [f l[i]])) r → Ev (fun k => g k (i : Int) x) r) : Ev (fun k => g k 0 y) r := by
  have h := ev_loop2 (g := fun k (s : Int × List β) => g k s.1 s.2) (fun i => ((i : Int), y ++ (l.take i).map f)) l.length (r := r) (by simpa using hend) (fun i hi ih => by
    dsimp only at ih ⊢
    refine hs i hi _ (by simp; omega) ?_
    rw [List.take_succ_eq_append_getElem hi, List.map_append, ← List.append_assoc] at ih
    exact ih)
  simpa using h
/-- A node that stands c places further. -/
def sh (c : Int) (x : S81) : S81 := if x.f0 ≥ 2 then ⟨x.f0, x.f1 + c, x.f2 + c⟩ else x
def pl (c : Int) (n : Nat) : List Int := (List.range n).map fun (j : Nat) => c + (j : Int)
theorem pl_len (c : Int) (n : Nat) : (pl c n).length = n := by simp [pl]
theorem rd_pl (c : Int) (n : Nat) (a : Int) (h0 : 0 ≤ a) (h1 : a < (n : Int)) : rd (pl c n) a = a + c := by
  obtain ⟨j, rfl⟩ := Int.eq_ofNat_of_zero_le h0
  rw [rdi, getD_at _ _ _ (by rw [pl_len]; omega)]
  simp [pl]
  omega
theorem node_wide {n : Int} {i N : Nat} {x : S81} (h : NodeOk n i x) (hi : i ≤ N) : NodeOk n N x := by
  rcases h with h | h | ⟨a, b1, b2, b3, b4⟩
  · exact .inl h
  · exact .inr (.inl h)
  · exact .inr (.inr ⟨a, b1, by omega, b3, by omega⟩)
theorem ren_pl (n c : Int) (N : Nat) (x : S81) (h : NodeOk n N x) : ren (pl c N) x = sh c x := by
  unfold ren sh
  by_cases hk : x.f0 ≥ 2
  · have ha : 0 ≤ x.f1 ∧ x.f1 < (N : Int) ∧ 0 ≤ x.f2 ∧ x.f2 < (N : Int) := by rcases h with h | h | h <;> omega
    rw [if_pos hk, if_pos hk, rd_pl c N _ ha.1 ha.2.1, rd_pl c N _ ha.2.2.1 ha.2.2.2]
  · rw [if_neg hk, if_neg hk]
theorem concat2 (a b : List Int) (ha : a.length ≤ 1000000) (hb : b.length ≤ 1000000) : Ev (fun k => slices_Concat_int16_int16.f k [a, b]) (a ++ b) := by
  have e0 : rd_L5 [a, b] 0 = a := rfl
  have e1 : rd_L5 [a, b] 1 = b := rfl
  have w1 : wrap64 ((0 : Int) + 1) = 1 := w64 (by omega)
  have w2 : wrap64 ((1 : Int) + 1) = 2 := w64 (by omega)
  have hl : (([a, b] : List (List Int)).length : Int) = 2 := rfl
  have wa : wrap64 ((0 : Int) + (a.length : Int)) = a.length := by rw [w64 (by omega)]; omega
  have wb : wrap64 ((a.length : Int) + (b.length : Int)) = (a.length : Int) + (b.length : Int) := w64 (by omega)
  unfold slices_Concat_int16_int16.f
  rw [hl]
  refine Ev.step (fun k => by rw [slices_Concat_int16_int16.l0]) ?_
  rw [hl, e0, wa, w1]
  refine Ev.iteT (by omega) (Ev.iteT (by omega) (Ev.iteT (by omega) (Ev.iteF (by omega) ?_)))
  refine Ev.step (fun k => by rw [slices_Concat_int16_int16.l0]) ?_
  rw [hl, e1, wb, w2]
  refine Ev.iteT (by omega) (Ev.iteT (by omega) (Ev.iteT (by omega) (Ev.iteF (by omega) ?_)))
  refine Ev.step (fun k => by rw [slices_Concat_int16_int16.l0]) ?_
  refine Ev.iteF (by omega) (Ev.bindc (x := ([] : List Int)) ?_ ?_)
  · unfold slices_Grow_int16_int16.f
    rw [if_pos (by omega), if_pos (by omega)]
  rw [hl]
  refine Ev.step (fun k => by rw [slices_Concat_int16_int16.l1]) ?_
  rw [hl, e0, w1]
  refine Ev.iteT (by omega) (Ev.iteT (by omega) (Ev.iteT (by omega) (Ev.iteT (by simp; omega) ?_)))
  refine Ev.step (fun k => by rw [slices_Concat_int16_int16.l1]) ?_
  rw [hl, e1, w2]
  refine Ev.iteT (by omega) (Ev.iteT (by omega) (Ev.iteT (by omega) (Ev.iteT (by simp; omega) ?_)))
  refine Ev.step (fun k => by rw [slices_Concat_int16_int16.l1]) ?_
  exact Ev.iteF (by omega) (Ev.now _)
theorem spec_both (n : Int) (la : List S81) (ma : List Int) (lb : List S81) (mb : List Int) (hn : NetOk n la ma) (hb : NetOk n lb mb) (hl : la.length + lb.length ≤ 80) (hm : ma.length + mb.length ≤ 8) :
    Ev (fun k => spec_BothNetworks.l0 k (la.length : Int) 0 n lb mb n la ma) (n, la ++ lb.map (sh la.length), ma ++ mb.map (fun y => y + (la.length : Int)), 0) := by
  refine ev_apq (sh la.length) lb la (g := fun k i x => spec_BothNetworks.l0 k (la.length : Int) i n lb mb n x ma) ?_ fun i hi x hx ih => ?_
  · refine Ev.step (fun k => by rw [spec_BothNetworks.l0]) (Ev.iteF (by omega) ?_)
    refine ev_apq (fun y => y + (la.length : Int)) mb ma (g := fun k i x => spec_BothNetworks.l1 k (la.length : Int) i n lb mb n (la ++ lb.map (sh la.length)) x) ?_ fun i hi x hx ih => ?_
    · exact Ev.step (fun k => by rw [spec_BothNetworks.l1]) (Ev.iteF (by omega) (Ev.now _))
    · have ho := hb.out i hi
      rw [getD_at _ _ _ hi] at ho
      refine Ev.step (fun k => by rw [spec_BothNetworks.l1]) ?_
      simp only [rdi, getD_at _ _ _ hi]
      rw [w64 (n := (i : Int) + 1) (by omega), w16 (n := mb[i] + (la.length : Int)) (by omega)]
      exact Ev.iteT (by omega) (Ev.iteT (by omega) (Ev.iteT (by omega) ih))
  · have ho := hb.node i hi
    rw [getD_at _ _ _ hi] at ho
    have hsh : sh la.length lb[i] = if lb[i].f0 ≥ 2 then ⟨lb[i].f0, lb[i].f1 + (la.length : Int), lb[i].f2 + (la.length : Int)⟩ else lb[i] := rfl
    refine Ev.step (fun k => by rw [spec_BothNetworks.l0]) ?_
    simp only [rdn, getD_at _ _ _ hi]
    rw [w64 (n := (i : Int) + 1) (by omega)]
    refine Ev.iteT (by omega) (Ev.iteT (by omega) ?_)
    by_cases hk : lb[i].f0 ≥ 2
    · have ha : 0 ≤ lb[i].f1 ∧ lb[i].f1 < (i : Int) ∧ 0 ≤ lb[i].f2 ∧ lb[i].f2 < (i : Int) := by rcases ho with ho | ho | ho <;> omega
      rw [hsh, if_pos hk] at ih
      rw [w16 (n := lb[i].f1 + (la.length : Int)) (by omega), w16 (n := lb[i].f2 + (la.length : Int)) (by omega)]
      exact Ev.iteT hk (Ev.iteT (by omega) ih)
    · rw [hsh, if_neg hk] at ih
      exact Ev.iteF hk (Ev.iteT (by omega) ih)
theorem impl_both (n : Int) (la : List S81) (ma : List Int) (lb : List S81) (mb : List Int) (hn : NetOk n la ma) (hb : NetOk n lb mb) (hl : la.length + lb.length ≤ 80) (hm : ma.length + mb.length ≤ 8) :
    Ev (fun k => impl_BothNetworks.l0 k [] lb.length 0 n la ma n lb mb) (n, la ++ lb.map (sh la.length), ma ++ mb.map (fun y => y + (la.length : Int)), 0) := by
  have hp : pl la.length lb.length = (List.range lb.length).map fun (j : Nat) => (la.length : Int) + (j : Int) := rfl
  have hlen := pl_len la.length lb.length
  have key := ev_app (fun (j : Nat) => (la.length : Int) + (j : Int)) (List.range lb.length) (g := fun k i x => impl_BothNetworks.l0 k x lb.length i n la ma n lb mb) (r := (n, la ++ lb.map (sh la.length), ma ++ mb.map (fun y => y + (la.length : Int)), 0)) ?_ fun i hi x hx ih => ?_
  · exact key
  · rw [List.length_range, ← hp]
    refine Ev.step (fun k => by rw [impl_BothNetworks.l0]) (Ev.iteF (by omega) ?_)
    refine Ev.bindc (x := la) (by unfold impl_Node.f; simp; omega) ?_
    refine Ev.bind (impl_outs (pl la.length lb.length) mb (fun i hi => by rw [hlen]; exact hb.out i hi) hb.outs.2) ?_
    have ho : outs (pl la.length lb.length) mb = mb.map fun y => y + (la.length : Int) := by
      unfold outs
      refine List.map_congr_left fun y hy => ?_
      obtain ⟨i, hi, rfl⟩ := List.getElem_of_mem hy
      have h := hb.out i hi
      rw [getD_at _ _ _ hi] at h
      exact rd_pl _ _ _ h.1 h.2
    rw [ho]
    refine Ev.bind (concat2 ma _ (by omega) (by simp; omega)) ?_
    refine ev_apq (sh la.length) lb la (g := fun k i x => impl_BothNetworks.l1 k (pl la.length lb.length) lb lb.length i n x (ma ++ mb.map fun y => y + (la.length : Int))) ?_ fun i hi x hx ih => ?_
    · exact Ev.step (fun k => by rw [impl_BothNetworks.l1]) (Ev.iteF (by omega) (Ev.now _))
    · have h := node_wide (N := lb.length) (hb.node i hi) (by omega)
      rw [getD_at _ _ _ hi] at h
      refine Ev.step (fun k => by rw [impl_BothNetworks.l1]) ?_
      simp only [rdn, getD_at _ _ _ hi]
      rw [w64 (n := (i : Int) + 1) (by omega)]
      refine Ev.iteT (by omega) (Ev.iteT (by omega) (Ev.iteT (by omega) (Ev.bindc (renamed_ok n lb.length lb[i] _ h hlen) (Ev.iteT (by omega) ?_))))
      rw [ren_pl n la.length lb.length lb[i] h]
      exact ih
  · have hi' : i < lb.length := by simpa using hi
    refine Ev.step (fun k => by rw [impl_BothNetworks.l0]) ?_
    rw [w64 (n := (la.length : Int) + (i : Int)) (by omega), w64 (n := (i : Int) + 1) (by omega), w16 (n := (la.length : Int) + (i : Int)) (by omega)]
    refine Ev.iteT (by omega) (Ev.iteT (by omega) ?_)
    rw [List.getElem_range] at ih
    exact ih
theorem core (x0_0 : Int) (x0_1 : List (S81)) (x0_2 : List (Int)) (x1_0 : Int) (x1_1 : List (S81)) (x1_2 : List (Int)) (ox0_0 : (-128 ≤ x0_0 ∧ x0_0 ≤ 127)) (ox0_1 : ∀ y ∈ x0_1, ok81 y) (nx0_1 : x0_1.length ≤ 1048576) (ox0_2 : ∀ y ∈ x0_2, (-32768 ≤ y ∧ y ≤ 32767)) (nx0_2 : x0_2.length ≤ 1048576) (ox1_0 : (-128 ≤ x1_0 ∧ x1_0 ≤ 127)) (ox1_1 : ∀ y ∈ x1_1, ok81 y) (nx1_1 : x1_1.length ≤ 1048576) (ox1_2 : ∀ y ∈ x1_2, (-32768 ≤ y ∧ y ≤ 32767)) (nx1_2 : x1_2.length ≤ 1048576) : ∃ r : Int × (List (S81)) × List Int × Int, Ev (fun k => spec_BothNetworks.f k x0_0 x0_1 x0_2 x1_0 x1_1 x1_2) r ∧ Ev (fun k => impl_BothNetworks.f k x0_0 x0_1 x0_2 x1_0 x1_1 x1_2) r ∧ r.2.1.length ≤ 1099511627776 ∧ r.2.2.1.length ≤ 1099511627776 := by
  obtain ⟨r, h1, h2⟩ := spec_ok x0_0 x0_1 x0_2 ox0_0 ox0_1 nx0_1 ox0_2 nx0_2
  obtain ⟨q, h3, h4⟩ := impl_ok x0_0 x0_1 x0_2 ox0_0 ox0_1 nx0_1 ox0_2 nx0_2
  obtain rfl := bool_same h2 h4
  obtain ⟨s, g1, g2⟩ := spec_ok x1_0 x1_1 x1_2 ox1_0 ox1_1 nx1_1 ox1_2 nx1_2
  obtain ⟨q, g3, g4⟩ := impl_ok x1_0 x1_1 x1_2 ox1_0 ox1_1 nx1_1 ox1_2 nx1_2
  obtain rfl := bool_same g2 g4
  have js : Ev (fun k => spec_BothNetworks.j0 k true x0_0 x0_1 x0_2 x1_0 x1_1 x1_2) (0, [], [], 1) := Ev.step (f := fun _ => some (0, [], [], 1)) (fun k => by simp [spec_BothNetworks.j0]) (Ev.now _)
  have ji : Ev (fun k => impl_BothNetworks.j0 k true x0_0 x0_1 x0_2 x1_0 x1_1 x1_2) (0, [], [], 1) := Ev.step (f := fun _ => some (0, [], [], 1)) (fun k => by simp [impl_BothNetworks.j0]) (Ev.now _)
  have jl : Ev (fun k => spec_BothNetworks.j1 k true x0_0 x0_1 x0_2 x1_0 x1_1 x1_2) (0, [], [], 3) := Ev.step (f := fun _ => some (0, [], [], 3)) (fun k => by simp [spec_BothNetworks.j1]) (Ev.now _)
  unfold spec_BothNetworks.f impl_BothNetworks.f
  cases r
  · exact ⟨(0, [], [], 1), Ev.bind h1 (Ev.iteF (by simp) js), Ev.bind h3 (Ev.iteF (by simp) ji), by simp, by simp⟩
  cases s
  · exact ⟨(0, [], [], 1), Ev.bind h1 (Ev.iteT rfl (Ev.bind g1 js)), Ev.bind h3 (Ev.iteT rfl (Ev.bind g3 ji)), by simp, by simp⟩
  have h := h2.1 rfl
  have g := g2.1 rfl
  have hl := h.len
  have hm := h.outs
  have gl := g.len
  have gm := g.outs
  by_cases hn : x0_0 = x1_0
  rotate_left
  · exact ⟨(0, [], [], 4), Ev.bind h1 (Ev.iteT rfl (Ev.bind g1 (Ev.step (fun k => by rw [spec_BothNetworks.j0]) (Ev.iteF (by simp) (Ev.iteF hn (Ev.now _)))))), Ev.bind h3 (Ev.iteT rfl (Ev.bind g3 (Ev.step (fun k => by rw [impl_BothNetworks.j0]) (Ev.iteF (by simp) (Ev.iteF hn (Ev.now _)))))), by simp, by simp⟩
  have wl : wrap64 ((x0_1.length : Int) + (x1_1.length : Int)) = (x0_1.length : Int) + (x1_1.length : Int) := w64 (by omega)
  have wm : wrap64 ((x0_2.length : Int) + (x1_2.length : Int)) = (x0_2.length : Int) + (x1_2.length : Int) := w64 (by omega)
  by_cases cl : (x0_1.length : Int) + (x1_1.length : Int) > 80
  · refine ⟨(0, [], [], 3), Ev.bind h1 (Ev.iteT rfl (Ev.bind g1 (Ev.step (fun k => by rw [spec_BothNetworks.j0]) (Ev.iteF (by simp) (Ev.iteT hn (Ev.iteT (by rw [wl]; exact cl) jl)))))), Ev.bind h3 (Ev.iteT rfl (Ev.bind g3 (Ev.step (fun k => by rw [impl_BothNetworks.j0]) (Ev.iteF (by simp) (Ev.iteT hn (Ev.iteT (by rw [wl]; exact cl) (Ev.now _))))))), by simp, by simp⟩
  by_cases cm : (x0_2.length : Int) + (x1_2.length : Int) > 8
  · refine ⟨(0, [], [], 3), Ev.bind h1 (Ev.iteT rfl (Ev.bind g1 (Ev.step (fun k => by rw [spec_BothNetworks.j0]) (Ev.iteF (by simp) (Ev.iteT hn (Ev.iteF (by rw [wl]; exact cl) ?_)))))), Ev.bind h3 (Ev.iteT rfl (Ev.bind g3 (Ev.step (fun k => by rw [impl_BothNetworks.j0]) (Ev.iteF (by simp) (Ev.iteT hn (Ev.iteF (by rw [wl]; exact cl) (Ev.iteT (by rw [wm]; exact cm) (Ev.now _)))))))), by simp, by simp⟩
    rw [wm, decide_eq_true cm]
    exact jl
  subst hn
  refine ⟨(x0_0, x0_1 ++ x1_1.map (sh x0_1.length), x0_2 ++ x1_2.map (fun y => y + (x0_1.length : Int)), 0), Ev.bind h1 (Ev.iteT rfl (Ev.bind g1 (Ev.step (fun k => by rw [spec_BothNetworks.j0]) (Ev.iteF (by simp) (Ev.iteT rfl (Ev.iteF (by rw [wl]; exact cl) ?_)))))), Ev.bind h3 (Ev.iteT rfl (Ev.bind g3 (Ev.step (fun k => by rw [impl_BothNetworks.j0]) (Ev.iteF (by simp) (Ev.iteT rfl (Ev.iteF (by rw [wl]; exact cl) (Ev.iteF (by rw [wm]; exact cm) (impl_both x0_0 x0_1 x0_2 x1_1 x1_2 h g (by omega) (by omega))))))))), by simp; omega, by simp; omega⟩
  rw [wm, decide_eq_false cm]
  refine Ev.step (fun k => by rw [spec_BothNetworks.j1]) ?_
  refine Ev.iteF (by simp) (Ev.bindc rfl (Ev.iteT (by simp; omega) (Ev.bindc rfl (Ev.iteT (by simp; omega) ?_))))
  rw [w16 (n := (x0_1.length : Int)) (by omega), List.nil_append, List.nil_append]
  exact spec_both x0_0 x0_1 x0_2 x1_1 x1_2 h g (by omega) (by omega)

theorem FnExactBothNetworks : QFnExactBothNetworks.Pure := by
  rintro ⟨x0_0, x0_1, x0_2⟩ ⟨x1_0, x1_1, x1_2⟩ ⟨wx0_0, wx0_1, wx0_2⟩ ⟨wx1_0, wx1_1, wx1_2⟩
  have ox0_0 : (-128 ≤ x0_0 ∧ x0_0 ≤ 127) := i8b wx0_0
  obtain ⟨wx0_1, mx0_1⟩ := wx0_1
  have mx0_1 : x0_1.length ≤ 9223372036854775807 := mx0_1
  obtain ⟨wx0_2, mx0_2⟩ := wx0_2
  have mx0_2 : x0_2.length ≤ 9223372036854775807 := mx0_2
  have ox1_0 : (-128 ≤ x1_0 ∧ x1_0 ≤ 127) := i8b wx1_0
  obtain ⟨wx1_1, mx1_1⟩ := wx1_1
  have mx1_1 : x1_1.length ≤ 9223372036854775807 := mx1_1
  obtain ⟨wx1_2, mx1_2⟩ := wx1_2
  have mx1_2 : x1_2.length ≤ 9223372036854775807 := mx1_2
  refine Ev.rounds (r := true) ?_
  unfold laws_FnExactBothNetworks.f
  obtain ⟨r_0, e_0, c_0⟩ := szNetwork x0_0 x0_1 x0_2 (1048576) (by omega) mx0_1 mx0_2
  refine Ev.bindc e_0 ?_
  rcases c_0 with c_0 | ⟨rfl, c_0⟩
  · exact Ev.iteT c_0 (Ev.now _)
  refine Ev.iteF (by omega) ?_
  obtain ⟨r_1, e_1, c_1⟩ := szNetwork x1_0 x1_1 x1_2 (1048576 - x0_1.length - x0_2.length) (by omega) mx1_1 mx1_2
  refine Ev.bindc e_1 ?_
  rcases c_1 with c_1 | ⟨rfl, c_1⟩
  · exact Ev.iteT c_1 (Ev.now _)
  refine Ev.iteF (by omega) ?_
  refine Ev.bind (toNetwork _ _ _ (by first | omega | ((try dsimp only); (try simp only [List.length_map, List.length_range, List.length_nil]); omega) | (simp; omega)) (by first | omega | ((try dsimp only); (try simp only [List.length_map, List.length_range, List.length_nil]); omega) | (simp; omega))) ?_
  try dsimp only
  refine Ev.bind (toNetwork _ _ _ (by first | omega | ((try dsimp only); (try simp only [List.length_map, List.length_range, List.length_nil]); omega) | (simp; omega)) (by first | omega | ((try dsimp only); (try simp only [List.length_map, List.length_range, List.length_nil]); omega) | (simp; omega))) ?_
  try dsimp only
  obtain ⟨⟨r0, r1, r2, r3⟩, hs, hi, hb⟩ := core x0_0 (x0_1.map cv131_81) x0_2 x1_0 (x1_1.map cv131_81) x1_2 ox0_0 (fun y hy => by obtain ⟨z, hz, rfl⟩ := List.mem_map.1 hy; exact okof131_81 (wx0_1 z hz)) (by first | omega | ((try dsimp only); (try simp only [List.length_map, List.length_range, List.length_nil]); omega) | (simp; omega)) (fun y hy => (i16b (wx0_2 y hy))) (by first | omega | ((try dsimp only); (try simp only [List.length_map, List.length_range, List.length_nil]); omega) | (simp; omega)) ox1_0 (fun y hy => by obtain ⟨z, hz, rfl⟩ := List.mem_map.1 hy; exact okof131_81 (wx1_1 z hz)) (by first | omega | ((try dsimp only); (try simp only [List.length_map, List.length_range, List.length_nil]); omega) | (simp; omega)) (fun y hy => (i16b (wx1_2 y hy))) (by first | omega | ((try dsimp only); (try simp only [List.length_map, List.length_range, List.length_nil]); omega) | (simp; omega))
  obtain ⟨b1, b2⟩ := hb
  try dsimp only at b1 b2
  refine Ev.bind hs ?_
  try dsimp only
  refine Ev.bind (toNetwork _ _ _ (by first | omega | ((try dsimp only); (try simp only [List.length_map, List.length_range, List.length_nil]); omega) | (simp; omega)) (by first | omega | ((try dsimp only); (try simp only [List.length_map, List.length_range, List.length_nil]); omega) | (simp; omega))) ?_
  try dsimp only
  refine Ev.bind (toNetwork _ _ _ (by first | omega | ((try dsimp only); (try simp only [List.length_map, List.length_range, List.length_nil]); omega) | (simp; omega)) (by first | omega | ((try dsimp only); (try simp only [List.length_map, List.length_range, List.length_nil]); omega) | (simp; omega))) ?_
  try dsimp only
  refine Ev.bind hi ?_
  try dsimp only
  refine Ev.bind (eqNetwork _ _ _ (by first | omega | ((try dsimp only); (try simp only [List.length_map, List.length_range, List.length_nil]); omega) | (simp; omega)) (by first | omega | ((try dsimp only); (try simp only [List.length_map, List.length_range, List.length_nil]); omega) | (simp; omega))) ?_
  try dsimp only
  refine Ev.iteT (by first | rfl | (first | omega | ((try dsimp only); (try simp only [List.length_map, List.length_range, List.length_nil]); omega) | (simp; omega))) ?_
  try dsimp only
  refine Ev.iteT (by first | rfl | (first | omega | ((try dsimp only); (try simp only [List.length_map, List.length_range, List.length_nil]); omega) | (simp; omega))) ?_
  try dsimp only
  refine Ev.bind (toNetwork _ _ _ (by first | omega | ((try dsimp only); (try simp only [List.length_map, List.length_range, List.length_nil]); omega) | (simp; omega)) (by first | omega | ((try dsimp only); (try simp only [List.length_map, List.length_range, List.length_nil]); omega) | (simp; omega))) ?_
  try dsimp only
  refine Ev.bind (eqNetwork _ _ _ (by first | omega | ((try dsimp only); (try simp only [List.length_map, List.length_range, List.length_nil]); omega) | (simp; omega)) (by first | omega | ((try dsimp only); (try simp only [List.length_map, List.length_range, List.length_nil]); omega) | (simp; omega))) ?_
  try dsimp only
  refine Ev.iteT (by first | rfl | (first | omega | ((try dsimp only); (try simp only [List.length_map, List.length_range, List.length_nil]); omega) | (simp; omega))) ?_
  try dsimp only
  refine Ev.bind (toNetwork _ _ _ (by first | omega | ((try dsimp only); (try simp only [List.length_map, List.length_range, List.length_nil]); omega) | (simp; omega)) (by first | omega | ((try dsimp only); (try simp only [List.length_map, List.length_range, List.length_nil]); omega) | (simp; omega))) ?_
  try dsimp only
  refine Ev.bind (eqNetwork _ _ _ (by first | omega | ((try dsimp only); (try simp only [List.length_map, List.length_range, List.length_nil]); omega) | (simp; omega)) (by first | omega | ((try dsimp only); (try simp only [List.length_map, List.length_range, List.length_nil]); omega) | (simp; omega))) ?_
  try dsimp only
  refine Ev.iteT (by first | rfl | (first | omega | ((try dsimp only); (try simp only [List.length_map, List.length_range, List.length_nil]); omega) | (simp; omega))) ?_
  try dsimp only
  refine Ev.bind (markNetwork _ _ _ _ (by first | omega | ((try dsimp only); (try simp only [List.length_map, List.length_range, List.length_nil]); omega) | (simp; omega)) (by first | omega | ((try dsimp only); (try simp only [List.length_map, List.length_range, List.length_nil]); omega) | (simp; omega)) (by first | omega | ((try dsimp only); (try simp only [List.length_map, List.length_range, List.length_nil]); omega) | (simp; omega))) ?_
  try dsimp only
  refine Ev.bind (markNetwork _ _ _ _ (by first | omega | ((try dsimp only); (try simp only [List.length_map, List.length_range, List.length_nil]); omega) | (simp; omega)) (by first | omega | ((try dsimp only); (try simp only [List.length_map, List.length_range, List.length_nil]); omega) | (simp; omega)) (by first | omega | ((try dsimp only); (try simp only [List.length_map, List.length_range, List.length_nil]); omega) | (simp; omega))) ?_
  try dsimp only
  refine Ev.iteF (by first | (simp; done) | (first | omega | ((try dsimp only); (try simp only [List.length_map, List.length_range, List.length_nil]); omega) | (simp; omega))) ?_
  try dsimp only
  refine Ev.bind (eqNetwork _ _ _ (by first | omega | ((try dsimp only); (try simp only [List.length_map, List.length_range, List.length_nil]); omega) | (simp; omega)) (by first | omega | ((try dsimp only); (try simp only [List.length_map, List.length_range, List.length_nil]); omega) | (simp; omega))) ?_
  try dsimp only
  refine Ev.iteT (by first | rfl | (first | omega | ((try dsimp only); (try simp only [List.length_map, List.length_range, List.length_nil]); omega) | (simp; omega))) ?_
  try dsimp only
  refine Ev.bind (markNetwork _ _ _ _ (by first | omega | ((try dsimp only); (try simp only [List.length_map, List.length_range, List.length_nil]); omega) | (simp; omega)) (by first | omega | ((try dsimp only); (try simp only [List.length_map, List.length_range, List.length_nil]); omega) | (simp; omega)) (by first | omega | ((try dsimp only); (try simp only [List.length_map, List.length_range, List.length_nil]); omega) | (simp; omega))) ?_
  try dsimp only
  refine Ev.bind (heldNetwork _ _ _ _ (by first | omega | ((try dsimp only); (try simp only [List.length_map, List.length_range, List.length_nil]); omega) | (simp; omega)) (by first | omega | ((try dsimp only); (try simp only [List.length_map, List.length_range, List.length_nil]); omega) | (simp; omega)) (by first | omega | ((try dsimp only); (try simp only [List.length_map, List.length_range, List.length_nil]); omega) | (simp; omega))) ?_
  try dsimp only
  refine Ev.iteF (by first | (simp; done) | (first | omega | ((try dsimp only); (try simp only [List.length_map, List.length_range, List.length_nil]); omega) | (simp; omega))) ?_
  try dsimp only
  refine Ev.iteT (by first | rfl | (first | omega | ((try dsimp only); (try simp only [List.length_map, List.length_range, List.length_nil]); omega) | (simp; omega))) ?_
  try dsimp only
  refine Ev.bind (toNetwork _ _ _ (by first | omega | ((try dsimp only); (try simp only [List.length_map, List.length_range, List.length_nil]); omega) | (simp; omega)) (by first | omega | ((try dsimp only); (try simp only [List.length_map, List.length_range, List.length_nil]); omega) | (simp; omega))) ?_
  try dsimp only
  refine Ev.bind (toNetwork _ _ _ (by first | omega | ((try dsimp only); (try simp only [List.length_map, List.length_range, List.length_nil]); omega) | (simp; omega)) (by first | omega | ((try dsimp only); (try simp only [List.length_map, List.length_range, List.length_nil]); omega) | (simp; omega))) ?_
  try dsimp only
  refine Ev.bind hi ?_
  try dsimp only
  refine Ev.bind (eqNetwork _ _ _ (by first | omega | ((try dsimp only); (try simp only [List.length_map, List.length_range, List.length_nil]); omega) | (simp; omega)) (by first | omega | ((try dsimp only); (try simp only [List.length_map, List.length_range, List.length_nil]); omega) | (simp; omega))) ?_
  try dsimp only
  refine Ev.iteT (by first | rfl | (first | omega | ((try dsimp only); (try simp only [List.length_map, List.length_range, List.length_nil]); omega) | (simp; omega))) ?_
  try dsimp only
  refine Ev.iteT (by first | rfl | (first | omega | ((try dsimp only); (try simp only [List.length_map, List.length_range, List.length_nil]); omega) | (simp; omega))) ?_
  try dsimp only
  refine Ev.bind (heldNetwork _ _ _ _ (by first | omega | ((try dsimp only); (try simp only [List.length_map, List.length_range, List.length_nil]); omega) | (simp; omega)) (by first | omega | ((try dsimp only); (try simp only [List.length_map, List.length_range, List.length_nil]); omega) | (simp; omega)) (by first | omega | ((try dsimp only); (try simp only [List.length_map, List.length_range, List.length_nil]); omega) | (simp; omega))) ?_
  try dsimp only
  refine Ev.iteF (by first | (simp; done) | (first | omega | ((try dsimp only); (try simp only [List.length_map, List.length_range, List.length_nil]); omega) | (simp; omega))) ?_
  try dsimp only
  refine Ev.iteT (by first | rfl | (first | omega | ((try dsimp only); (try simp only [List.length_map, List.length_range, List.length_nil]); omega) | (simp; omega))) ?_
  try dsimp only
  exact Ev.now _
end Go.Proofs.Ytmpmanfoiocfgaa.Pure
