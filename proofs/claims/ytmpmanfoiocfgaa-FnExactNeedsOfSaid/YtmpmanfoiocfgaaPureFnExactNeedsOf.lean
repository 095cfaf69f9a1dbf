/- The pure side of the law FnExactNeedsOf: for all arguments its Lean function answers true. No condition beside the arguments' kinds. -/
import Derived.Test.YtmpmanfoiocfgaaQFnExactNeedsOf
import Derived.Test.YtmpmanfoiocfgaaTFnExactNeedsOfa
namespace Go.Proofs.Ytmpmanfoiocfgaa.Pure
open Go.RowKit Go.Proofs.Ytmpmanfoiocfgaa.PFnExactNeedsOf Go.Proofs.YtmpmanfoiocfgaaW.PrintWords Go.Proofs.YtmpmanfoiocfgaaW.PrintLast Go.Proofs.YtmpmanfoiocfgaaX Go.Proofs.Ytmpmanfoiocfgaa.QFnExactNeedsOf Go.Proofs.YtmpmanfoiocfgaaB
set_option linter.unusedVariables false
set_option linter.unusedSimpArgs false

theorem szNodeS (l0 : List (S131)) (a_ : Int) (ha : 0 ≤ a_ ∧ a_ ≤ 1048576) (hl0 : l0.length ≤ 9223372036854775807) : ∃ r, laws_szNodeS.f l0 a_ = some r ∧ (r < 0 ∨ (r = a_ - l0.length ∧ 0 ≤ r)) := by
  unfold laws_szNodeS.f
  rw [w64 (n := a_ - l0.length) (by omega)]
  by_cases h : a_ - (l0.length : Int) < 0
  · exact ⟨-1, by rw [if_pos h], .inl (by omega)⟩
  · exact ⟨_, by rw [if_neg h], .inr ⟨rfl, by omega⟩⟩
theorem szInt16S (l0 : List (Int)) (a_ : Int) (ha : 0 ≤ a_ ∧ a_ ≤ 1048576) (hl0 : l0.length ≤ 9223372036854775807) : ∃ r, laws_szInt16S.f l0 a_ = some r ∧ (r < 0 ∨ (r = a_ - l0.length ∧ 0 ≤ r)) := by
  unfold laws_szInt16S.f
  rw [w64 (n := a_ - l0.length) (by omega)]
  by_cases h : a_ - (l0.length : Int) < 0
  · exact ⟨-1, by rw [if_pos h], .inl (by omega)⟩
  · exact ⟨_, by rw [if_neg h], .inr ⟨rfl, by omega⟩⟩
theorem szNetwork (a0_0 : Int) (l0_1 : List (S131)) (l0_2 : List (Int)) (a_ : Int) (ha : 0 ≤ a_ ∧ a_ ≤ 1048576) (hl0_1 : l0_1.length ≤ 9223372036854775807) (hl0_2 : l0_2.length ≤ 9223372036854775807) : ∃ r, laws_szNetwork.f a0_0 l0_1 l0_2 a_ = some r ∧ (r < 0 ∨ (r = a_ - l0_1.length - l0_2.length ∧ 0 ≤ r)) := by
  unfold laws_szNetwork.f
  obtain ⟨r0, e0, c0⟩ := szNodeS l0_1 (a_) (by omega) hl0_1
  rw [e0]
  simp only [Option.bind_some]
  rcases c0 with c0 | ⟨rfl, c0⟩
  · exact ⟨-1, by rw [if_pos c0], .inl (by omega)⟩
  rw [if_neg (by omega)]
  obtain ⟨r1, e1, c1⟩ := szInt16S l0_2 (a_ - l0_1.length) (by omega) hl0_2
  rw [e1]
  simp only [Option.bind_some]
  rcases c1 with c1 | ⟨rfl, c1⟩
  · exact ⟨-1, by rw [if_pos c1], .inl (by omega)⟩
  rw [if_neg (by omega)]
  exact ⟨_, rfl, .inr ⟨rfl, by omega⟩⟩
theorem toNode (a0_0 : Int) (a0_1 : Int) (a0_2 : Int)  : laws_toNode.f a0_0 a0_1 a0_2 = some (a0_0, a0_1, a0_2) := by
  unfold laws_toNode.f
  simp
def cv131_81 (x : S131) : S81 := ⟨x.f0, x.f1, x.f2⟩
theorem toNodeS (l0 : List (S131)) (hl0 : l0.length ≤ 1099511627776) : Ev (fun k => laws_toNodeS.f k l0) (l0.map cv131_81) := by
  suffices main : Ev (fun k => laws_toNodeS.f k l0) (l0.map cv131_81) by exact main
  unfold laws_toNodeS.f
  refine Ev.iteT (by omega) (Ev.iteT (by omega) ?_)
  rw [Int.toNat_natCast]
  refine ev_fill2 (g := fun k x i => laws_toNodeS.l0 k l0 x i) cv131_81 l0 _ (Ev.step (f := fun _ => some _) (fun k => by simp [laws_toNodeS.l0]) (Ev.now _)) fun i h x hx ih => ?_
  have eg : l0.getD i z131 = l0[i] := getD_at _ _ _ h
  refine Ev.step (fun k => by rw [laws_toNodeS.l0]) (Ev.iteT (by omega) (Ev.iteT (by omega) ?_))
  simp only [rd_T131, Int.toNat_natCast, eg]
  refine Ev.bindc (toNode _ _ _ ) ?_
  refine Ev.iteT (by omega) ?_
  rw [w64 (by omega)]
  exact ih
theorem toInt16S (l0 : List (Int)) (hl0 : l0.length ≤ 1099511627776) : Ev (fun k => laws_toInt16S.f k l0) l0 := by
  suffices main : Ev (fun k => laws_toInt16S.f k l0) (l0.map id) by rwa [List.map_id] at main
  unfold laws_toInt16S.f
  refine Ev.iteT (by omega) (Ev.iteT (by omega) ?_)
  rw [Int.toNat_natCast]
  refine ev_fill2 (g := fun k x i => laws_toInt16S.l0 k l0 x i) id l0 _ (Ev.step (f := fun _ => some _) (fun k => by simp [laws_toInt16S.l0]) (Ev.now _)) fun i h x hx ih => ?_
  have eg : l0.getD i (0 : Int) = l0[i] := getD_at _ _ _ h
  refine Ev.step (fun k => by rw [laws_toInt16S.l0]) (Ev.iteT (by omega) (Ev.iteT (by omega) ?_))
  simp only [rd, Int.toNat_natCast, eg]
  refine Ev.iteT (by omega) ?_
  rw [w64 (by omega)]
  exact ih
theorem toNetwork (a0_0 : Int) (l0_1 : List (S131)) (l0_2 : List (Int)) (hl0_1 : l0_1.length ≤ 1099511627776) (hl0_2 : l0_2.length ≤ 1099511627776) : Ev (fun k => laws_toNetwork.f k a0_0 l0_1 l0_2) (a0_0, (l0_1.map cv131_81), l0_2) := by
  unfold laws_toNetwork.f
  exact (Ev.bind (toNodeS _ (by first | omega | ((try dsimp only); (try simp only [List.length_map, List.length_range, List.length_nil]); omega) | (simp; omega))) (Ev.bind (toInt16S _ (by first | omega | ((try dsimp only); (try simp only [List.length_map, List.length_range, List.length_nil]); omega) | (simp; omega))) (Ev.now _)))
theorem eqNode (a0_0 : Int) (a0_1 : Int) (a0_2 : Int)  : laws_eqNode.f a0_0 a0_1 a0_2 a0_0 a0_1 a0_2 = some true := by
  unfold laws_eqNode.f
  simp
theorem eqNodeS (l0 : List (S81)) (hl0 : l0.length ≤ 1099511627776) : Ev (fun k => laws_eqNodeS.f k l0 l0) true := by
  unfold laws_eqNodeS.f
  refine Ev.iteT rfl ?_
  refine ev_loop2 (g := fun k i => laws_eqNodeS.l0 k l0 l0 i) (fun i => (i : Int)) l0.length (Ev.step (f := fun _ => some _) (fun k => by simp [laws_eqNodeS.l0]) (Ev.now _)) fun i h ih => ?_
  refine Ev.step (fun k => by rw [laws_eqNodeS.l0]) (Ev.iteT (by omega) (Ev.iteT (by omega) (Ev.iteT (by omega) ?_)))
  refine Ev.bindc (eqNode _ _ _ ) (Ev.iteT rfl ?_)
  rw [w64 (by omega)]
  exact ih
theorem eqInt16S (l0 : List (Int)) (hl0 : l0.length ≤ 1099511627776) : Ev (fun k => laws_eqInt16S.f k l0 l0) true := by
  unfold laws_eqInt16S.f
  refine Ev.iteT rfl ?_
  refine ev_loop2 (g := fun k i => laws_eqInt16S.l0 k l0 l0 i) (fun i => (i : Int)) l0.length (Ev.step (f := fun _ => some _) (fun k => by simp [laws_eqInt16S.l0]) (Ev.now _)) fun i h ih => ?_
  refine Ev.step (fun k => by rw [laws_eqInt16S.l0]) (Ev.iteT (by omega) (Ev.iteT (by omega) (Ev.iteT (by omega) ?_)))
  refine Ev.iteT rfl ?_
  rw [w64 (by omega)]
  exact ih
theorem eqNetwork (a0_0 : Int) (l0_1 : List (S81)) (l0_2 : List (Int)) (hl0_1 : l0_1.length ≤ 1099511627776) (hl0_2 : l0_2.length ≤ 1099511627776) : Ev (fun k => laws_eqNetwork.f k a0_0 l0_1 l0_2 a0_0 l0_1 l0_2) true := by
  unfold laws_eqNetwork.f
  exact (Ev.iteT rfl (Ev.bind (eqNodeS _ (by first | omega | ((try dsimp only); (try simp only [List.length_map, List.length_range, List.length_nil]); omega) | (simp; omega))) (Ev.iteT rfl (Ev.bind (eqInt16S _ (by first | omega | ((try dsimp only); (try simp only [List.length_map, List.length_range, List.length_nil]); omega) | (simp; omega))) (Ev.iteT rfl (Ev.now _))))))
def mk_NodeS (k : Int) : S81 := ⟨IntKind.i8.wrap k, IntKind.i16.wrap (k + 1), IntKind.i16.wrap (k + 2)⟩
theorem markNodeS (l0 : List (S81)) (k_ : Int) (hl0 : l0.length ≤ 1099511627776) (hk : 0 ≤ k_ ∧ (k_ + 3 * (l0.length : Int)) ≤ 4611686018427387904) : Ev (fun k => laws_markNodeS.f k l0 k_) ((k_ + 3 * (l0.length : Int)), ((List.range l0.length).map fun (j : Nat) => mk_NodeS (k_ + 3 * (j : Int)))) := by
  unfold laws_markNodeS.f
  refine ev_mark (g := fun k x q i => laws_markNodeS.l0 k x q i) mk_NodeS 3 l0 k_ (Ev.step (f := fun _ => some _) (fun k => by simp [laws_markNodeS.l0]) (Ev.now _)) fun i x h hx ih => ?_
  obtain ⟨q, hq⟩ : ∃ q, q = k_ + 3 * (i : Int) := ⟨_, rfl⟩
  rw [← hq] at ih ⊢
  have hqb : 0 ≤ q ∧ q + 3 ≤ 4611686018427387904 := by omega
  rw [show k_ + 3 * ((i + 1 : Nat) : Int) = q + 3 by omega] at ih
  have e0 : wrap64 (q + 1) = q + 1 := (w64 (by omega)).trans (by omega)
  have e1 : wrap64 ((q + 1) + 1) = q + 2 := (w64 (by omega)).trans (by omega)
  have e2 : wrap64 ((q + 2) + 1) = q + 3 := (w64 (by omega)).trans (by omega)
  have ei : wrap64 ((i : Int) + 1) = ((i + 1 : Nat) : Int) := w64 (by omega)
  have hi1 : ((i : Int) < (x.length : Int)) = True := eq_true (by omega)
  have hi0 : (0 ≤ (i : Int)) = True := eq_true (by omega)
  have hs : ∀ a, (x.set i a).getD i z81 = a := fun a => getD_set x i z81 a (by omega)
  have st : ∀ k, laws_markNodeS.l0 (k + 1) x q (i : Int) = laws_markNodeS.l0 k (x.set i (mk_NodeS q)) (q + 3) ((i + 1 : Nat) : Int) := fun k => by
    simp only [laws_markNodeS.l0]
    simp only [e0, e1, e2, ei, hi1, hi0, if_true, if_false, Option.bind_some, Int.toNat_natCast, List.length_set, List.set_set, rd_T81, hs]
    rfl
  exact Ev.steps 1 st ih
def mk_Int16S (k : Int) : Int := IntKind.i16.wrap k
theorem markInt16S (l0 : List (Int)) (k_ : Int) (hl0 : l0.length ≤ 1099511627776) (hk : 0 ≤ k_ ∧ (k_ + 1 * (l0.length : Int)) ≤ 4611686018427387904) : Ev (fun k => laws_markInt16S.f k l0 k_) ((k_ + 1 * (l0.length : Int)), ((List.range l0.length).map fun (j : Nat) => mk_Int16S (k_ + 1 * (j : Int)))) := by
  unfold laws_markInt16S.f
  refine ev_mark (g := fun k x q i => laws_markInt16S.l0 k x q i) mk_Int16S 1 l0 k_ (Ev.step (f := fun _ => some _) (fun k => by simp [laws_markInt16S.l0]) (Ev.now _)) fun i x h hx ih => ?_
  obtain ⟨q, hq⟩ : ∃ q, q = k_ + 1 * (i : Int) := ⟨_, rfl⟩
  rw [← hq] at ih ⊢
  have hqb : 0 ≤ q ∧ q + 1 ≤ 4611686018427387904 := by omega
  rw [show k_ + 1 * ((i + 1 : Nat) : Int) = q + 1 by omega] at ih
  have e0 : wrap64 (q + 1) = q + 1 := (w64 (by omega)).trans (by omega)
  have ei : wrap64 ((i : Int) + 1) = ((i + 1 : Nat) : Int) := w64 (by omega)
  have hi1 : ((i : Int) < (x.length : Int)) = True := eq_true (by omega)
  have hi0 : (0 ≤ (i : Int)) = True := eq_true (by omega)
  have hs : ∀ a, (x.set i a).getD i 0 = a := fun a => getD_set x i 0 a (by omega)
  have st : ∀ k, laws_markInt16S.l0 (k + 1) x q (i : Int) = laws_markInt16S.l0 k (x.set i (mk_Int16S q)) (q + 1) ((i + 1 : Nat) : Int) := fun k => by
    simp only [laws_markInt16S.l0]
    simp only [e0, ei, hi1, hi0, if_true, if_false, Option.bind_some, Int.toNat_natCast, List.length_set, List.set_set, rd, hs]
    rfl
  exact Ev.steps 1 st ih
theorem markNetwork (a0_0 : Int) (l0_1 : List (S81)) (l0_2 : List (Int)) (k_ : Int) (hl0_1 : l0_1.length ≤ 1099511627776) (hl0_2 : l0_2.length ≤ 1099511627776) (hk : 0 ≤ k_ ∧ k_ + 3 * (l0_1.length : Int) + 1 * (l0_2.length : Int) ≤ 4611686018427387904) : Ev (fun k => laws_markNetwork.f k a0_0 l0_1 l0_2 k_) (k_ + 3 * (l0_1.length : Int) + 1 * (l0_2.length : Int), ((List.range l0_1.length).map fun (j : Nat) => mk_NodeS (k_ + 3 * (j : Int))), ((List.range l0_2.length).map fun (j : Nat) => mk_Int16S (k_ + 3 * (l0_1.length : Int) + 1 * (j : Int)))) := by
  unfold laws_markNetwork.f
  exact Ev.bind (markNodeS _ _ (by omega) (by omega)) (Ev.bind (markInt16S _ _ (by omega) (by omega)) (Ev.now _))
theorem eqBoolS (l0 : List (Bool)) (hl0 : l0.length ≤ 1099511627776) : Ev (fun k => laws_eqBoolS.f k l0 l0) true := by
  unfold laws_eqBoolS.f
  refine Ev.iteT rfl ?_
  refine ev_loop2 (g := fun k i => laws_eqBoolS.l0 k l0 l0 i) (fun i => (i : Int)) l0.length (Ev.step (f := fun _ => some _) (fun k => by simp [laws_eqBoolS.l0]) (Ev.now _)) fun i h ih => ?_
  refine Ev.step (fun k => by rw [laws_eqBoolS.l0]) (Ev.iteT (by omega) (Ev.iteT (by omega) (Ev.iteT (by omega) ?_)))
  refine Ev.iteF (by simp) ?_
  rw [w64 (by omega)]
  exact ih
def mk_BoolS (k : Int) : Bool := (Int.tmod k 3) == 0
theorem markBoolS (l0 : List (Bool)) (k_ : Int) (hl0 : l0.length ≤ 1099511627776) (hk : 0 ≤ k_ ∧ (k_ + 1 * (l0.length : Int)) ≤ 4611686018427387904) : Ev (fun k => laws_markBoolS.f k l0 k_) ((k_ + 1 * (l0.length : Int)), ((List.range l0.length).map fun (j : Nat) => mk_BoolS (k_ + 1 * (j : Int)))) := by
  unfold laws_markBoolS.f
  refine ev_mark (g := fun k x q i => laws_markBoolS.l0 k x q i) mk_BoolS 1 l0 k_ (Ev.step (f := fun _ => some _) (fun k => by simp [laws_markBoolS.l0]) (Ev.now _)) fun i x h hx ih => ?_
  obtain ⟨q, hq⟩ : ∃ q, q = k_ + 1 * (i : Int) := ⟨_, rfl⟩
  rw [← hq] at ih ⊢
  have hqb : 0 ≤ q ∧ q + 1 ≤ 4611686018427387904 := by omega
  rw [show k_ + 1 * ((i + 1 : Nat) : Int) = q + 1 by omega] at ih
  have e0 : wrap64 (q + 1) = q + 1 := (w64 (by omega)).trans (by omega)
  have ei : wrap64 ((i : Int) + 1) = ((i + 1 : Nat) : Int) := w64 (by omega)
  have hi1 : ((i : Int) < (x.length : Int)) = True := eq_true (by omega)
  have hi0 : (0 ≤ (i : Int)) = True := eq_true (by omega)
  have hs : ∀ a, (x.set i a).getD i false = a := fun a => getD_set x i false a (by omega)
  have st : ∀ k, laws_markBoolS.l0 (k + 1) x q (i : Int) = laws_markBoolS.l0 k (x.set i (mk_BoolS q)) (q + 1) ((i + 1 : Nat) : Int) := fun k => by
    simp only [laws_markBoolS.l0]
    simp only [e0, ei, bne_self_eq_false, Bool.false_eq_true, hi1, hi0, if_true, if_false, Option.bind_some, Int.toNat_natCast, List.length_set, List.set_set, rdOf, hs]
    rfl
  exact Ev.steps 1 st ih
theorem heldBoolS (n : Nat) (k_ : Int) (hn : n ≤ 1099511627776) (hk : 0 ≤ k_ ∧ k_ + 1 * (n : Int) ≤ 4611686018427387904) : Ev (fun k => laws_heldBoolS.f k ((List.range n).map fun (j : Nat) => mk_BoolS (k_ + 1 * (j : Int))) k_) (k_ + 1 * (n : Int)) := by
  unfold laws_heldBoolS.f
  obtain ⟨M, hM⟩ : ∃ M, M = ((List.range n).map fun (j : Nat) => mk_BoolS (k_ + 1 * (j : Int))) := ⟨_, rfl⟩
  rw [← hM]
  have hl : M.length = n := by rw [hM]; simp
  have hv : ∀ i, i < n → M.getD i false = mk_BoolS (k_ + 1 * (i : Int)) := fun i h => by rw [hM]; exact mark_at _ _ _ _ _ _ h
  clear hM
  have h0 := ev_loop2 (g := fun k (s : Int × Int) => laws_heldBoolS.l0 k M s.1 s.2) (fun i => (k_ + 1 * (i : Int), (i : Int))) n (r := k_ + 1 * (n : Int)) (Ev.step (f := fun _ => some _) (fun k => by simp [laws_heldBoolS.l0, hl]) (Ev.now _)) fun i h ih => ?_
  · simpa using h0
  dsimp only at ih ⊢
  have hs := hv i h
  obtain ⟨q, hq⟩ : ∃ q, q = k_ + 1 * (i : Int) := ⟨_, rfl⟩
  rw [← hq] at hs ⊢
  rw [show k_ + 1 * ((i + 1 : Nat) : Int) = q + 1 by omega] at ih
  have hqb : 0 ≤ q ∧ q + 1 ≤ 4611686018427387904 := by omega
  have e0 : wrap64 (q + 1) = q + 1 := (w64 (by omega)).trans (by omega)
  have ei : wrap64 ((i : Int) + 1) = ((i + 1 : Nat) : Int) := w64 (by omega)
  have hi1 : ((i : Int) < (M.length : Int)) = True := eq_true (by omega)
  have hi0 : (0 ≤ (i : Int)) = True := eq_true (by omega)
  have st : ∀ k, laws_heldBoolS.l0 (k + 1) M q (i : Int) = laws_heldBoolS.l0 k M (q + 1) ((i + 1 : Nat) : Int) := fun k => by
    simp only [laws_heldBoolS.l0]
    simp only [e0, ei, bne_self_eq_false, Bool.false_eq_true, hi1, hi0, if_true, if_false, Option.bind_some, Int.toNat_natCast, List.length_set, List.set_set, rdOf, hs, mk_BoolS]
  exact Ev.steps 1 st ih
def ok81 (x : S81) : Prop := (-128 ≤ x.f0 ∧ x.f0 ≤ 127) ∧ (-32768 ≤ x.f1 ∧ x.f1 ≤ 32767) ∧ (-32768 ≤ x.f2 ∧ x.f2 ≤ 32767)
theorem okof131_81 {x : S131} (h : wf131 x) : ok81 (cv131_81 x) := by
  obtain ⟨h0, h1, h2⟩ := h
  exact ⟨(i8b h0), (i16b h1), (i16b h2)⟩
/-- What a node at place j may be, of a network with n inputs. -/
def NodeOk (n j : Int) (x : S81) : Prop := (x.f0 = 0 ∧ 0 ≤ x.f1 ∧ x.f1 < n ∧ x.f2 = 0) ∨ (x.f0 = 1 ∧ x.f1 = 0 ∧ x.f2 = 0) ∨ ((x.f0 = 2 ∨ x.f0 = 3) ∧ 0 ≤ x.f1 ∧ x.f1 < j ∧ 0 ≤ x.f2 ∧ x.f2 < j)
structure NetOk (n : Int) (l : List (S81)) (m : List Int) : Prop where
  inputs : 1 ≤ n ∧ n ≤ 6
  len : 1 ≤ l.length ∧ l.length ≤ 80
  outs : 1 ≤ m.length ∧ m.length ≤ 8
  node : ∀ i : Nat, i < l.length → NodeOk n i (l.getD i z81)
  out : ∀ i : Nat, i < m.length → 0 ≤ m.getD i 0 ∧ m.getD i 0 < l.length
theorem in_same : spec_l00In.f = impl_in.f := rfl
theorem in_some (a b c : Int) : impl_in.f a b c = some (decide (b ≤ a ∧ a ≤ c)) := by
  unfold impl_in.f
  by_cases h : b ≤ a <;> simp [h]
theorem rd0 (n : Int) (l : List (S81)) (m : List Int) : rd_T31 [(⟨n, l, m⟩ : S31)] 0 = ⟨n, l, m⟩ := id rfl
theorem rdn (l : List (S81)) (i : Nat) : rd_T81 l (i : Int) = l.getD i z81 := id rfl
theorem rdi (l : List Int) (i : Nat) : rd l (i : Int) = l.getD i 0 := id rfl
theorem ok_at {l : List (S81)} (h : ∀ y ∈ l, ok81 y) (i : Nat) : ok81 (l.getD i z81) := by
  by_cases hi : i < l.length
  · rw [getD_at _ _ _ hi]; exact h _ (List.getElem_mem hi)
  · rw [List.getD_eq_getElem?_getD, List.getElem?_eq_none (by omega)]; simp [ok81, z81]
theorem i16_at {l : List Int} (h : ∀ y ∈ l, -32768 ≤ y ∧ y ≤ 32767) (i : Nat) : -32768 ≤ l.getD i 0 ∧ l.getD i 0 ≤ 32767 := by
  by_cases hi : i < l.length
  · rw [getD_at _ _ _ hi]; exact h _ (List.getElem_mem hi)
  · rw [List.getD_eq_getElem?_getD, List.getElem?_eq_none (by omega)]; simp
theorem spec_node (n : Int) (l : List (S81)) (m : List Int) (hn : -128 ≤ n ∧ n ≤ 127) (hx : ∀ y ∈ l, ok81 y) (i : Nat) (hi : i < l.length) :
    ∃ r, spec_l04Node.f [(⟨n, l, m⟩ : S31)] i = some r ∧ (r = true ↔ NodeOk n i (l.getD i z81)) := by
  have hb := ok_at hx i
  obtain ⟨⟨x0, x1, x2⟩, hX⟩ : ∃ x, x = l.getD i z81 := ⟨_, rfl⟩
  unfold spec_l04Node.f NodeOk
  simp only [rd0, rdn]
  rw [← hX] at hb ⊢
  obtain ⟨b0, b1, b2⟩ := hb
  dsimp only at b0 b1 b2 ⊢
  rw [if_pos (by simp), if_pos (by omega), if_pos (by omega), w16 (n := n) (by omega), w64 (n := x1) (by omega), w64 (n := x2) (by omega)]
  by_cases h0 : x0 = 0
  · subst h0
    by_cases h1 : x1 ≥ 0 <;> by_cases h2 : x1 < n <;> simp [h1, h2] <;> omega
  · by_cases h1 : x0 = 1
    · subst h1
      by_cases h2 : x1 = 0 <;> simp [h2]
    · by_cases h2 : x0 = 2
      · subst h2
        by_cases h3 : x1 ≥ 0 <;> by_cases h4 : x1 < (i : Int) <;> by_cases h5 : x2 ≥ 0 <;> simp [h3, h4, h5] <;> omega
      · by_cases h2 : x0 = 3
        · subst h2
          by_cases h3 : x1 ≥ 0 <;> by_cases h4 : x1 < (i : Int) <;> by_cases h5 : x2 ≥ 0 <;> simp [h3, h4, h5] <;> omega
        · exact ⟨false, by simp [*], by simp; omega⟩
theorem impl_node (n : Int) (x : S81) (hn : -128 ≤ n ∧ n ≤ 127) (hx : ok81 x) (i : Nat) (hi : i ≤ 1048576) :
    ∃ r, Ev (fun k => impl_Node_ok.f k x.f0 x.f1 x.f2 (wrap64 n) i) r ∧ (r = true ↔ NodeOk n i x) := by
  obtain ⟨x0, x1, x2⟩ := x
  obtain ⟨b0, b1, b2⟩ := hx
  unfold impl_Node_ok.f NodeOk
  dsimp only at b0 b1 b2 ⊢
  rw [w64 (n := n) (by omega), w64 (n := x1) (by omega), w64 (n := x2) (by omega), w64 (n := n - 1) (by omega)]
  have hj : ∀ b, Ev (fun k => impl_Node_ok.j0 k i x1 x2 b) (b && (decide (0 ≤ x1 ∧ x1 ≤ (i : Int) - 1) && decide (0 ≤ x2 ∧ x2 ≤ (i : Int) - 1))) := by
    intro b
    refine Ev.step (f := fun _ => some (b && (decide (0 ≤ x1 ∧ x1 ≤ (i : Int) - 1) && decide (0 ≤ x2 ∧ x2 ≤ (i : Int) - 1)))) (fun k => ?_) (Ev.now _)
    simp only [impl_Node_ok.j0, in_some, Option.bind_some]
    rw [w64 (by omega)]
    cases b <;> by_cases h : 0 ≤ x1 ∧ x1 ≤ (i : Int) - 1 <;> simp [h]
  by_cases h0 : x0 = 0
  · subst h0
    refine ⟨_, Ev.iteT rfl (Ev.bindc (in_some _ _ _) (ev_const (r := decide (0 ≤ x1 ∧ x1 ≤ n - 1) && (x2 == 0)) ?_)), ?_⟩
    · by_cases h : 0 ≤ x1 ∧ x1 ≤ n - 1 <;> simp [h]
    · simp; omega
  · by_cases h1 : x0 = 1
    · subst h1
      refine ⟨_, Ev.iteF (by simp) (Ev.iteT rfl (ev_const (r := decide (x1 = 0) && (x2 == 0)) ?_)), ?_⟩
      · by_cases h : x1 = 0 <;> simp [h]
      · simp
    · by_cases h2 : x0 = 2
      · exact ⟨_, Ev.iteF h0 (Ev.iteF h1 (Ev.iteT h2 (hj _))), by subst h2; simp; omega⟩
      · exact ⟨_, Ev.iteF h0 (Ev.iteF h1 (Ev.iteF h2 (hj _))), by simp; omega⟩
theorem spec_ok (n : Int) (l : List (S81)) (m : List Int) (hn : -128 ≤ n ∧ n ≤ 127) (hx : ∀ y ∈ l, ok81 y) (hl : l.length ≤ 1048576) (hy : ∀ y ∈ m, -32768 ≤ y ∧ y ≤ 32767) (hm : m.length ≤ 1048576) :
    ∃ r, Ev (fun k => spec_l04Ok.f k [(⟨n, l, m⟩ : S31)]) r ∧ (r = true ↔ NetOk n l m) := by
  have hj : Ev (fun k => spec_l04Ok.j0 k [(⟨n, l, m⟩ : S31)] true) false := Ev.step (f := fun _ => some false) (fun k => by simp [spec_l04Ok.j0]) (Ev.now _)
  unfold spec_l04Ok.f
  simp only [in_same, in_some, rd0]
  rw [w64 (n := n) (by omega)]
  by_cases h1 : 1 ≤ n ∧ n ≤ 6
  · by_cases h2 : 1 ≤ (l.length : Int) ∧ (l.length : Int) ≤ 80
    · by_cases h3 : 1 ≤ (m.length : Int) ∧ (m.length : Int) ≤ 8
      · have hout : ∃ r, Ev (fun k => spec_l04Ok.l1 k [(⟨n, l, m⟩ : S31)] 0) r ∧ (r = true ↔ ∀ i : Nat, i < m.length → 0 ≤ m.getD i 0 ∧ m.getD i 0 < l.length) := by
          refine ev_all (g := fun k i => spec_l04Ok.l1 k [(⟨n, l, m⟩ : S31)] i) _ (fun k => by simp [spec_l04Ok.l1, rd0]) (fun i h hp => ⟨0, fun k _ => ?_⟩) (fun i h hp => ⟨0, fun k _ => ?_⟩)
          all_goals
            have hb := i16_at hy i
            simp only [spec_l04Ok.l1, rd0, rdi]
            rw [if_pos (by simp), if_pos (by omega), if_pos (by omega), w64 (n := m.getD i 0) (by omega)]
          · rw [if_neg (by omega), if_neg (by omega), w64 (by omega)]; rfl
          · by_cases h4 : m.getD i 0 < 0
            · rw [if_pos h4]
            · rw [if_neg h4, if_pos (by omega)]
        obtain ⟨r, h4, h5⟩ := hout
        have hnode : ∃ r, Ev (fun k => spec_l04Ok.l0 k [(⟨n, l, m⟩ : S31)] 0) r ∧ (r = true ↔ (∀ i : Nat, i < l.length → NodeOk n i (l.getD i z81)) ∧ ∀ i : Nat, i < m.length → 0 ≤ m.getD i 0 ∧ m.getD i 0 < l.length) := by
          refine ev_scanB (g := fun k i => spec_l04Ok.l0 k [(⟨n, l, m⟩ : S31)] i) (fun i => NodeOk n i (l.getD i z81)) h5 (fun _ => ?_) (fun i h hp s hs => ?_) (fun i h hp => ?_)
          · refine Ev.step (fun k => by rw [spec_l04Ok.l0]) ?_
            simp only [rd0]
            exact Ev.iteT (by simp) (Ev.iteF (by omega) h4)
          all_goals
            obtain ⟨q, h6, h7⟩ := spec_node n l m hn hx i h
            refine Ev.step (fun k => by rw [spec_l04Ok.l0]) ?_
            simp only [rd0]
            refine Ev.iteT (by simp) (Ev.iteT (by omega) (Ev.bindc h6 ?_))
          · refine Ev.iteT (h7.2 hp) ?_
            rw [w64 (by omega)]
            exact hs
          · exact Ev.iteF (fun h => hp (h7.1 h)) (Ev.now _)
        obtain ⟨s, h6, h7⟩ := hnode
        refine ⟨s, Ev.iteT (by simp) (Ev.bindc rfl (Ev.iteT (by simpa using h1) (Ev.bindc rfl (Ev.iteT (by simpa using h2) (Ev.bindc rfl ?_))))), ?_⟩
        · refine Ev.step (fun k => by rw [spec_l04Ok.j0]) (Ev.iteF (by simp; omega) h6)
        · rw [h7]; exact ⟨fun h => ⟨h1, by omega, by omega, h.1, h.2⟩, fun h => ⟨h.node, h.out⟩⟩
      · refine ⟨false, Ev.iteT (by simp) (Ev.bindc rfl (Ev.iteT (by simpa using h1) (Ev.bindc rfl (Ev.iteT (by simpa using h2) (Ev.bindc rfl ?_))))), ?_⟩
        · rw [show (!decide (1 ≤ (m.length : Int) ∧ (m.length : Int) ≤ 8)) = true by rw [decide_eq_false h3]; rfl]; exact hj
        · simp only [Bool.false_eq_true, false_iff]; intro h; have := h.outs; omega
    · refine ⟨false, Ev.iteT (by simp) (Ev.bindc rfl (Ev.iteT (by simpa using h1) (Ev.bindc rfl (Ev.iteF (by simpa using h2) hj)))), ?_⟩
      simp only [Bool.false_eq_true, false_iff]; intro h; have := h.len; omega
  · refine ⟨false, Ev.iteT (by simp) (Ev.bindc rfl (Ev.iteF (by simpa using h1) hj)), ?_⟩
    simp only [Bool.false_eq_true, false_iff]; intro h; have := h.inputs; omega
theorem impl_out (n : Int) (l : List (S81)) (m : List Int) (hl : l.length ≤ 1048576) (hl0 : 1 ≤ l.length) (hy : ∀ y ∈ m, -32768 ≤ y ∧ y ≤ 32767) (hm : m.length ≤ 1048576) :
    ∃ r, Ev (fun k => slices_ContainsFunc__impl_ValidNetwork_1.f k m [(⟨n, l, m⟩ : S31)]) r ∧ (r = false ↔ ∀ i : Nat, i < m.length → 0 ≤ m.getD i 0 ∧ m.getD i 0 < l.length) := by
  unfold slices_ContainsFunc__impl_ValidNetwork_1.f slices_IndexFunc__impl_ValidNetwork_1.f
  have hv : ∀ i : Nat, i < m.length → impl_ValidNetwork_1.f (rd m i) [(⟨n, l, m⟩ : S31)] = some (!decide (0 ≤ m.getD i 0 ∧ m.getD i 0 < l.length)) := fun i hi => by
    have hb := i16_at hy i
    unfold impl_ValidNetwork_1.f
    simp only [rd0, rdi, in_some, Option.bind_some]
    rw [if_pos (by simp), w64 (n := m.getD i 0) (by omega), w64 (by omega)]
    congr 3
    simp; omega
  rcases first_or_all (fun i => 0 ≤ m.getD i 0 ∧ m.getD i 0 < (l.length : Int)) m.length with h | ⟨j, h1, h2, h3⟩
  · refine ⟨false, Ev.bind (a := -1) (ev_loop2 (g := fun k i => slices_IndexFunc__impl_ValidNetwork_1.l0 k m m.length i [(⟨n, l, m⟩ : S31)]) (fun i => (i : Int)) m.length ?_ fun i hi ih => ?_) (ev_const (by simp)), by simpa using h⟩
    · refine Ev.step (fun k => by rw [slices_IndexFunc__impl_ValidNetwork_1.l0]) ?_
      exact Ev.iteF (by omega) (Ev.now _)
    · refine Ev.step (fun k => by rw [slices_IndexFunc__impl_ValidNetwork_1.l0]) ?_
      refine Ev.iteT (by omega) (Ev.iteT (by omega) (Ev.iteT (by omega) (Ev.bindc (hv i hi) (Ev.iteF (by simpa using h i hi) ?_))))
      rw [w64 (by omega)]
      exact ih
  · refine ⟨true, Ev.bind (a := (j : Int)) (ev_loop2 (g := fun k i => slices_IndexFunc__impl_ValidNetwork_1.l0 k m m.length i [(⟨n, l, m⟩ : S31)]) (fun i => (i : Int)) j ?_ fun i hi ih => ?_) (ev_const (by simp)), ?_⟩
    · refine Ev.step (fun k => by rw [slices_IndexFunc__impl_ValidNetwork_1.l0]) ?_
      exact Ev.iteT (by omega) (Ev.iteT (by omega) (Ev.iteT (by omega) (Ev.bindc (hv j h1) (Ev.iteT (by rw [decide_eq_false h2]; rfl) (Ev.now _)))))
    · refine Ev.step (fun k => by rw [slices_IndexFunc__impl_ValidNetwork_1.l0]) ?_
      refine Ev.iteT (by omega) (Ev.iteT (by omega) (Ev.iteT (by omega) (Ev.bindc (hv i (by omega)) (Ev.iteF (by simpa using h3 i hi) ?_))))
      rw [w64 (by omega)]
      exact ih
    · simp only [Bool.true_eq_false, false_iff]; exact fun h => h2 (h j h1)
theorem impl_ok (n : Int) (l : List (S81)) (m : List Int) (hn : -128 ≤ n ∧ n ≤ 127) (hx : ∀ y ∈ l, ok81 y) (hl : l.length ≤ 1048576) (hy : ∀ y ∈ m, -32768 ≤ y ∧ y ≤ 32767) (hm : m.length ≤ 1048576) :
    ∃ r, Ev (fun k => impl_ValidNetwork.f k n l m) r ∧ (r = true ↔ NetOk n l m) := by
  have hj : Ev (fun k => impl_ValidNetwork.j0 k true n l m) false := Ev.step (f := fun _ => some false) (fun k => by simp [impl_ValidNetwork.j0]) (Ev.now _)
  unfold impl_ValidNetwork.f
  simp only [in_some]
  rw [w64 (n := n) (by omega)]
  by_cases h1 : 1 ≤ n ∧ n ≤ 6
  · by_cases h2 : 1 ≤ (l.length : Int) ∧ (l.length : Int) ≤ 80
    · by_cases h3 : 1 ≤ (m.length : Int) ∧ (m.length : Int) ≤ 8
      · obtain ⟨r, h4, h5⟩ := impl_out n l m hl (by omega) hy hm
        have h5 : (!r) = true ↔ ∀ i : Nat, i < m.length → 0 ≤ m.getD i 0 ∧ m.getD i 0 < l.length := by rw [← h5]; simp
        have hnode : ∃ r, Ev (fun k => impl_ValidNetwork.l0 k l l.length 0 n l m) r ∧ (r = true ↔ (∀ i : Nat, i < l.length → NodeOk n i (l.getD i z81)) ∧ ∀ i : Nat, i < m.length → 0 ≤ m.getD i 0 ∧ m.getD i 0 < l.length) := by
          refine ev_scanB (g := fun k i => impl_ValidNetwork.l0 k l l.length i n l m) (fun i => NodeOk n i (l.getD i z81)) h5 (fun _ => ?_) (fun i h hp s hs => ?_) (fun i h hp => ?_)
          · refine Ev.step (fun k => by rw [impl_ValidNetwork.l0]) ?_
            exact Ev.iteF (by omega) (Ev.bind h4 (Ev.now _))
          all_goals
            obtain ⟨q, h6, h7⟩ := impl_node n (l.getD i z81) hn (ok_at hx i) i (by omega)
            refine Ev.step (fun k => by rw [impl_ValidNetwork.l0]) ?_
            simp only [rdn]
            refine Ev.iteT (by omega) (Ev.iteT (by omega) (Ev.iteT (by omega) (Ev.bind h6 ?_)))
          · refine Ev.iteT (h7.2 hp) ?_
            rw [w64 (by omega)]
            exact hs
          · exact Ev.iteF (fun h => hp (h7.1 h)) (Ev.now _)
        obtain ⟨s, h6, h7⟩ := hnode
        refine ⟨s, (Ev.bindc rfl (Ev.iteT (by simpa using h1) (Ev.bindc rfl (Ev.iteT (by simpa using h2) (Ev.bindc rfl ?_))))), ?_⟩
        · refine Ev.step (fun k => by rw [impl_ValidNetwork.j0]) (Ev.iteF (by simp; omega) h6)
        · rw [h7]; exact ⟨fun h => ⟨h1, by omega, by omega, h.1, h.2⟩, fun h => ⟨h.node, h.out⟩⟩
      · refine ⟨false, (Ev.bindc rfl (Ev.iteT (by simpa using h1) (Ev.bindc rfl (Ev.iteT (by simpa using h2) (Ev.bindc rfl ?_))))), ?_⟩
        · rw [show (!decide (1 ≤ (m.length : Int) ∧ (m.length : Int) ≤ 8)) = true by rw [decide_eq_false h3]; rfl]; exact hj
        · simp only [Bool.false_eq_true, false_iff]; intro h; have := h.outs; omega
    · refine ⟨false, (Ev.bindc rfl (Ev.iteT (by simpa using h1) (Ev.bindc rfl (Ev.iteF (by simpa using h2) hj)))), ?_⟩
      simp only [Bool.false_eq_true, false_iff]; intro h; have := h.len; omega
  · refine ⟨false, (Ev.bindc rfl (Ev.iteF (by simpa using h1) hj)), ?_⟩
    simp only [Bool.false_eq_true, false_iff]; intro h; have := h.inputs; omega

theorem full_same (n : Int) (h : 1 ≤ n ∧ n ≤ 6) : ∃ v, spec_l04Full.f n = some v ∧ impl_full.f n = some v ∧ 0 ≤ v ∧ v ≤ 18446744073709551615 := by
  have hn : n = 1 ∨ n = 2 ∨ n = 3 ∨ n = 4 ∨ n = 5 ∨ n = 6 := by omega
  rcases hn with rfl | rfl | rfl | rfl | rfl | rfl
  · exact ⟨3, by decide +kernel, by decide +kernel, by omega, by omega⟩
  · exact ⟨15, by decide +kernel, by decide +kernel, by omega, by omega⟩
  · exact ⟨255, by decide +kernel, by decide +kernel, by omega, by omega⟩
  · exact ⟨65535, by decide +kernel, by decide +kernel, by omega, by omega⟩
  · exact ⟨4294967295, by decide +kernel, by decide +kernel, by omega, by omega⟩
  · exact ⟨18446744073709551615, by decide +kernel, by decide +kernel, by omega, by omega⟩
theorem input_all : ∀ n ∈ ([1, 2, 3, 4, 5, 6] : List Int), ∀ i ∈ ([0, 1, 2, 3, 4, 5] : List Int), i < n → ((spec_l04Input.f 100 n i).any (fun v => decide (0 ≤ v ∧ v ≤ 18446744073709551615)) = true ∧ spec_l04Input.f 100 n i = impl_inputTable.f 100 n i) := by decide +kernel
theorem input_same (n i : Int) (h : 1 ≤ n ∧ n ≤ 6) (hi : 0 ≤ i ∧ i < n) : ∃ v, Ev (fun k => spec_l04Input.f k n i) v ∧ Ev (fun k => impl_inputTable.f k n i) v ∧ 0 ≤ v ∧ v ≤ 18446744073709551615 := by
  have hn : n ∈ ([1, 2, 3, 4, 5, 6] : List Int) := by
    have : n = 1 ∨ n = 2 ∨ n = 3 ∨ n = 4 ∨ n = 5 ∨ n = 6 := by omega
    rcases this with rfl | rfl | rfl | rfl | rfl | rfl <;> decide
  have hj : i ∈ ([0, 1, 2, 3, 4, 5] : List Int) := by
    have : i = 0 ∨ i = 1 ∨ i = 2 ∨ i = 3 ∨ i = 4 ∨ i = 5 := by omega
    rcases this with rfl | rfl | rfl | rfl | rfl | rfl <;> decide
  obtain ⟨h1, h2⟩ := input_all n hn i hj hi.2
  cases hv : spec_l04Input.f 100 n i with
  | none => rw [hv] at h1; simp at h1
  | some v =>
    rw [hv] at h1 h2
    simp only [Option.any_some, decide_eq_true_eq] at h1
    exact ⟨v, Ev.of (k := 100) (fun k => spec_l04Input.mono n i k) hv, Ev.of (k := 100) (fun k => impl_inputTable.mono n i k) h2.symm, h1⟩
def U64 (v : Int) : Prop := 0 ≤ v ∧ v ≤ 18446744073709551615
theorem bits_u64 (o : Go.BinOp) (a b : Int) : U64 (Go.bits o .u64 a b) := by
  have h : ∀ c, U64 (IntKind.u64.wrap c) := fun c => by unfold U64; rw [IntKind.wrap_u64]; omega
  exact h _
theorem tables_same (n : Int) (l : List (S81)) (m : List Int) (hx : ∀ y ∈ l, ok81 y) (h : NetOk n l m) :
    ∃ t, Ev (fun k => spec_l04Tables.f k [(⟨n, l, m⟩ : S31)]) t ∧ Ev (fun k => impl_Network_tables.f k [(⟨n, l, m⟩ : S31)]) t ∧ t.length = l.length ∧ ∀ y ∈ t, U64 y := by
  obtain ⟨v, h1, h2, h3⟩ := full_same n h.inputs
  have hlen := h.len
  have hin := h.inputs
  unfold spec_l04Tables.f impl_Network_tables.f
  simp only [rd0]
  rw [w64 (n := n) (by omega)]
  have key := ev_pair (σ := List Int) (ρ := List Int) (fun i t => t.length = i ∧ ∀ y ∈ t, U64 y) l.length
    (fun i t k => spec_l04Tables.l0 k [(⟨n, l, m⟩ : S31)] v t i) (fun i t k => impl_Network_tables.l0 k [(⟨n, l, m⟩ : S31)] t l l.length i) (fun t => t.length = l.length ∧ ∀ y ∈ t, U64 y) ?_ ?_ [] (by simp)
  · obtain ⟨t, k1, k2, k3⟩ := key
    exact ⟨t, Ev.iteT (by simp) (Ev.bindc h1 k1), Ev.iteT (by simp) k2, k3⟩
  · intro t ht
    refine ⟨t, ?_, ?_, ht⟩
    · refine Ev.step (fun k => by rw [spec_l04Tables.l0]) ?_
      simp only [rd0]
      exact Ev.iteT (by simp) (Ev.iteF (by omega) (Ev.now _))
    · refine Ev.step (fun k => by rw [impl_Network_tables.l0]) ?_
      exact Ev.iteF (by omega) (Ev.now _)
  · intro i t hi ⟨ht, hu⟩
    have hb := ok_at hx i
    have ho := h.node i hi
    obtain ⟨⟨x0, x1, x2⟩, hX⟩ : ∃ x, x = l.getD i z81 := ⟨_, rfl⟩
    have app : ∀ v, U64 v → (t ++ [v]).length = i + 1 ∧ ∀ y ∈ t ++ [v], U64 y := fun v hv => ⟨by simp [ht], fun y hy => by rcases List.mem_append.1 hy with hy | hy; exact hu y hy; simp at hy; exact hy ▸ hv⟩
    have wi : wrap64 ((i : Int) + 1) = ((i + 1 : Nat) : Int) := w64 (by omega)
    rw [← hX] at hb ho
    obtain ⟨b0, b1, b2⟩ := hb
    dsimp only at b0 b1 b2
    have s1 : ∀ r, Ev (fun k => spec_l04Tables.l0 k [(⟨n, l, m⟩ : S31)] v t i) r ↔ Ev (fun k => spec_l04Tables.l0 (k + 1) [(⟨n, l, m⟩ : S31)] v t i) r := fun r => ⟨fun ⟨K, h⟩ => ⟨K, fun k hk => h _ (by omega)⟩, fun h => Ev.step (fun _ => rfl) h⟩
    have s2 : ∀ r, Ev (fun k => impl_Network_tables.l0 k [(⟨n, l, m⟩ : S31)] t l l.length i) r ↔ Ev (fun k => impl_Network_tables.l0 (k + 1) [(⟨n, l, m⟩ : S31)] t l l.length i) r := fun r => ⟨fun ⟨K, h⟩ => ⟨K, fun k hk => h _ (by omega)⟩, fun h => Ev.step (fun _ => rfl) h⟩
    simp only [spec_l04Tables.l0, impl_Network_tables.l0, rd0, rdn, ← hX, wi] at s1 s2
    have c1 : (i : Int) < (l.length : Int) := by omega
    have c2 : 0 ≤ (i : Int) := by omega
    have c3 : 0 < (([(⟨n, l, m⟩ : S31)].length : Nat) : Int) := by simp
    have c4 : t.length < 17592186044416 := by omega
    simp only [c1, c2, c3, c4, if_true] at s1 s2
    have e1 : wrap64 n = n := w64 (by omega)
    have e2 : wrap64 x1 = x1 := w64 (by omega)
    simp only [e1, e2] at s1 s2
    rcases ho with ⟨rfl, a1, a2, rfl⟩ | ⟨rfl, rfl, rfl⟩ | ⟨a0, a1, a2, a3, a4⟩
    · dsimp only at a1 a2
      obtain ⟨w, k1, k2, k3⟩ := input_same n x1 h.inputs ⟨a1, a2⟩
      refine .inl ⟨t ++ [w], app w k3, fun r => ⟨fun h => (s1 r).2 ?_, fun h => (s2 r).2 ?_⟩⟩
      · exact Ev.iteT rfl (Ev.bind k1 h)
      · exact Ev.iteT rfl (Ev.bind k2 h)
    · refine .inl ⟨t ++ [v], app v h3, fun r => ⟨fun h => (s1 r).2 ?_, fun h => (s2 r).2 ?_⟩⟩
      · exact Ev.iteF (by simp) (Ev.iteF (by simp) (Ev.iteF (by simp) h))
      · exact Ev.iteF (by simp) (Ev.iteT rfl (Ev.bindc h2 h))
    · dsimp only at a0 a1 a2 a3 a4
      rcases a0 with rfl | rfl
      · refine .inl ⟨t ++ [Go.bits .or .u64 (rd t x1) (rd t x2)], app _ (bits_u64 _ _ _), fun r => ⟨fun h => (s1 r).2 ?_, fun h => (s2 r).2 ?_⟩⟩
        · exact Ev.iteF (by simp) (Ev.iteT rfl (Ev.iteT a1 (Ev.iteT (by omega) (Ev.iteT a3 (Ev.iteT (by omega) h)))))
        · exact Ev.iteF (by simp) (Ev.iteF (by simp) (Ev.iteT rfl (Ev.iteT a1 (Ev.iteT (by omega) (Ev.iteT a3 (Ev.iteT (by omega) h))))))
      · refine .inl ⟨t ++ [Go.bits .andNot .u64 (rd t x1) (rd t x2)], app _ (bits_u64 _ _ _), fun r => ⟨fun h => (s1 r).2 ?_, fun h => (s2 r).2 ?_⟩⟩
        · exact Ev.iteF (by simp) (Ev.iteF (by simp) (Ev.iteT rfl (Ev.iteT a1 (Ev.iteT (by omega) (Ev.iteT a3 (Ev.iteT (by omega) h))))))
        · exact Ev.iteF (by simp) (Ev.iteF (by simp) (Ev.iteF (by simp) (Ev.iteT a1 (Ev.iteT (by omega) (Ev.iteT a3 (Ev.iteT (by omega) h))))))

theorem outputs_same (n : Int) (l : List (S81)) (m : List Int) (hx : ∀ y ∈ l, ok81 y) (h : NetOk n l m) :
    ∃ t, Ev (fun k => spec_l04Outputs.f k [(⟨n, l, m⟩ : S31)]) t ∧ Ev (fun k => impl_Network_outputTables.f k [(⟨n, l, m⟩ : S31)]) t ∧ t.length = m.length ∧ ∀ y ∈ t, U64 y := by
  obtain ⟨v, h1, h2, h3, h4⟩ := tables_same n l m hx h
  have hout := h.outs
  have hlen := h.len
  unfold spec_l04Outputs.f impl_Network_outputTables.f
  simp only [rd0]
  have key := ev_pair (σ := List Int) (ρ := List Int) (fun i t => t.length = i ∧ ∀ y ∈ t, U64 y) m.length
    (fun i t k => spec_l04Outputs.l0 k [(⟨n, l, m⟩ : S31)] v t i) (fun i t k => impl_Network_outputTables.l0 k v t m m.length i) (fun t => t.length = m.length ∧ ∀ y ∈ t, U64 y) ?_ ?_ [] (by simp)
  · obtain ⟨t, k1, k2, k3⟩ := key
    exact ⟨t, Ev.bind h1 k1, Ev.bind h2 (Ev.iteT (by simp) k2), k3⟩
  · intro t ht
    refine ⟨t, ?_, ?_, ht⟩
    · refine Ev.step (fun k => by rw [spec_l04Outputs.l0]) ?_
      simp only [rd0]
      exact Ev.iteT (by simp) (Ev.iteF (by omega) (Ev.now _))
    · refine Ev.step (fun k => by rw [impl_Network_outputTables.l0]) ?_
      exact Ev.iteF (by omega) (Ev.now _)
  · intro i t hi ⟨ht, hu⟩
    have ho := h.out i hi
    have wi : wrap64 ((i : Int) + 1) = ((i + 1 : Nat) : Int) := w64 (by omega)
    have hv : U64 (rd v (m.getD i 0)) := getD_mem h4 0 _ (by omega)
    refine .inl ⟨t ++ [rd v (m.getD i 0)], ⟨by simp [ht], fun y hy => by rcases List.mem_append.1 hy with hy | hy; exact hu y hy; simp at hy; exact hy ▸ hv⟩, fun r => ⟨fun h => ?_, fun h => ?_⟩⟩
    · refine Ev.step (fun k => by rw [spec_l04Outputs.l0]) ?_
      simp only [rd0, rdi, wi]
      exact Ev.iteT (by simp) (Ev.iteT (by omega) (Ev.iteT (by omega) (Ev.iteT ho.1 (Ev.iteT (by omega) (Ev.iteT (by omega) h)))))
    · refine Ev.step (fun k => by rw [impl_Network_outputTables.l0]) ?_
      simp only [rdi, wi]
      exact Ev.iteT (by omega) (Ev.iteT (by omega) (Ev.iteT (by omega) (Ev.iteT ho.1 (Ev.iteT (by omega) (Ev.iteT (by omega) h)))))

theorem u64w {n : Int} (h : 0 ≤ n ∧ n ≤ 18446744073709551615) : IntKind.u64.wrap n = n := by rw [IntKind.wrap_u64]; omega
theorem shr_u64 {v x : Int} (h : U64 v) : U64 (shr .u64 v x) := by
  unfold shr
  have hp : (0 : Int) < 2 ^ min x.toNat IntKind.u64.bits := Int.pow_pos (by decide)
  have h1 := Int.ediv_nonneg h.1 (Int.le_of_lt hp)
  have h2 := Int.ediv_le_self (2 ^ min x.toNat IntKind.u64.bits) h.1
  exact ⟨h1, Int.le_trans h2 h.2⟩
/-- One bit of a table. -/
def tb (v x : Int) : Int := Go.bits .and .u64 (shr .u64 v x) 1
theorem tb_two {v x : Int} (h : U64 v) : tb v x = 0 ∨ tb v x = 1 := by
  have hu := shr_u64 (x := x) h
  have e := and_one_u64 (shr .u64 v x) hu.1 hu.2
  unfold tb
  rw [e]
  omega

theorem idx_loop {g : Nat → Int → Option Int} (P : Nat → Prop) (n : Nat) (hend : Ev (fun k => g k (n : Int)) (-1)) (hyes : ∀ i : Nat, i < n → P i → Ev (fun k => g k (i : Int)) (i : Int)) (hno : ∀ i : Nat, i < n → ¬ P i → ∀ s, Ev (fun k => g k ((i + 1 : Nat) : Int)) s → Ev (fun k => g k (i : Int)) s) :
    ∃ r, Ev (fun k => g k 0) r ∧ (0 ≤ r ↔ ∃ i, i < n ∧ P i) := by
  have : DecidablePred fun i => ¬ P i := fun _ => Classical.propDecidable _
  rcases first_or_all (fun i => ¬ P i) n with h | ⟨j, h1, h2, h3⟩
  · refine ⟨-1, ev_loop2 (g := g) (fun i => (i : Int)) n hend (fun i hi ih => hno i hi (h i hi) _ ih), ⟨fun h' => by omega, ?_⟩⟩
    rintro ⟨i, hi, c⟩
    exact absurd c (h i hi)
  · exact ⟨(j : Int), ev_loop2 (g := g) (fun i => (i : Int)) j (hyes j h1 (Classical.not_not.1 h2)) (fun i hi ih => hno i (by omega) (h3 i hi) _ ih), ⟨fun _ => ⟨j, h1, Classical.not_not.1 h2⟩, fun _ => by omega⟩⟩

/-- The row that differs in one input alone. -/
def ot (i r : Nat) : Int := Go.bits .xor .i64 (r : Int) (shl .i64 1 (i : Int))
theorem ot_all : ∀ r ∈ List.range 64, ∀ i ∈ List.range 6, decide (0 ≤ ot i r ∧ ot i r ≤ 63) = true := by decide +kernel
theorem ot_in (i r : Nat) (hi : i < 6) (hr : r < 64) : 0 ≤ ot i r ∧ ot i r ≤ 63 := by
  have := ot_all r (List.mem_range.2 hr) i (List.mem_range.2 hi)
  simpa using this
def db (T : List Int) (i r j : Nat) : Bool := tb (T.getD j 0) (r : Int) != tb (T.getD j 0) (ot i r)
def rowb (T : List Int) (i r : Nat) : Bool := (List.range T.length).any (db T i r)
def nb (T : List Int) (R i : Nat) : Bool := (List.range R).any (rowb T i)
theorem any_succ (f : Nat → Bool) (j : Nat) : (List.range (j + 1)).any f = ((List.range j).any f || f j) := by rw [List.range_succ, List.any_append]; simp
theorem spec_l2 (T : List Int) (hl : T.length ≤ 8) (n : Int) (l : List (S81)) (m : List Int) (i r : Nat) (hi : i < 6) (hr : r < 64) (y : List Bool) (hy : i < y.length) (s : List Bool × Int)
    (h : Ev (fun k => spec_NeedsOf.l1 k T (if rowb T i r = true then y.set i true else y) (i : Int) ((r + 1 : Nat) : Int) n l m) s) : Ev (fun k => spec_NeedsOf.l2 k T y (i : Int) (r : Int) (ot i r) 0 n l m) s := by
  have o := ot_in i r hi hr
  have key := ev_loop2 (g := fun k (j : Nat) => spec_NeedsOf.l2 k T (if (List.range j).any (db T i r) = true then y.set i true else y) (i : Int) (r : Int) (ot i r) (j : Int) n l m) (fun j => j) T.length (r := s) ?_ fun j hj ih => ?_
  · simpa using key
  · refine Ev.step (fun k => by rw [spec_NeedsOf.l2]) ?_
    refine Ev.iteF (by omega) ?_
    rw [w64 (n := (r : Int) + 1) (by omega)]
    exact h
  · have wj : wrap64 ((j : Int) + 1) = ((j + 1 : Nat) : Int) := w64 (by omega)
    have ur : IntKind.u64.wrap (r : Int) = (r : Int) := u64w (n := (r : Int)) (by omega)
    have uo : IntKind.u64.wrap (ot i r) = ot i r := u64w (n := ot i r) (by omega)
    refine Ev.step (fun k => by rw [spec_NeedsOf.l2]) ?_
    simp only [rdi, wj, ur, uo, Int.toNat_natCast]
    refine Ev.iteT (by omega) (Ev.iteT (by omega) (Ev.iteT (by omega) (Ev.iteT (by omega) ?_)))
    rw [any_succ] at ih
    by_cases hd : db T i r j = true
    · have hne : ¬ tb (T.getD j 0) (r : Int) = tb (T.getD j 0) (ot i r) := by simpa [db] using hd
      rw [hd, Bool.or_true, if_pos rfl] at ih
      refine Ev.iteF hne (Ev.iteT (by omega) (Ev.iteT ?_ ?_))
      · split <;> simp <;> omega
      · have e : (if (List.range j).any (db T i r) = true then y.set i true else y).set i true = y.set i true := by split <;> simp
        rw [e]
        exact ih
    · have he : tb (T.getD j 0) (r : Int) = tb (T.getD j 0) (ot i r) := by simpa [db] using hd
      rw [Bool.eq_false_iff.2 hd, Bool.or_false] at ih
      exact Ev.iteT he ih
theorem spec_rows (N : Nat) (hN : 1 ≤ N ∧ N ≤ 6) : spec_l04Rows.f (wrap64 (N : Int)) = some ((2 ^ N : Nat) : Int) ∧ impl_rows.f (N : Int) = some ((2 ^ N : Nat) : Int) ∧ 2 ^ N ≤ 64 := by
  have : N = 1 ∨ N = 2 ∨ N = 3 ∨ N = 4 ∨ N = 5 ∨ N = 6 := by omega
  rcases this with rfl | rfl | rfl | rfl | rfl | rfl <;> exact ⟨by decide +kernel, by decide +kernel, by decide⟩
theorem spec_l1 (T : List Int) (hl : T.length ≤ 8) (N : Nat) (hN : 1 ≤ N ∧ N ≤ 6) (l : List (S81)) (m : List Int) (i : Nat) (hi : i < N) (y : List Bool) (hy : i < y.length) (s : List Bool × Int)
    (h : Ev (fun k => spec_NeedsOf.l0 k T (if nb T (2 ^ N) i = true then y.set i true else y) ((i + 1 : Nat) : Int) (N : Int) l m) s) : Ev (fun k => spec_NeedsOf.l1 k T y (i : Int) 0 (N : Int) l m) s := by
  obtain ⟨r1, _, r3⟩ := spec_rows N hN
  unfold nb at h
  generalize 2 ^ N = R at r1 r3 h
  have ui : IntKind.u64.wrap (i : Int) = (i : Int) := u64w (n := (i : Int)) (by omega)
  have key := ev_loop2 (g := fun k (r : Nat) => spec_NeedsOf.l1 k T (if (List.range r).any (rowb T i) = true then y.set i true else y) (i : Int) (r : Int) (N : Int) l m) (fun r => r) R (r := s) ?_ fun r hr ih => ?_
  · simpa using key
  · refine Ev.step (fun k => by rw [spec_NeedsOf.l1]) ?_
    refine Ev.bindc r1 (Ev.iteF (by omega) ?_)
    rw [w64 (n := (i : Int) + 1) (by omega)]
    exact h
  · refine Ev.step (fun k => by rw [spec_NeedsOf.l1]) ?_
    simp only [ui]
    refine Ev.bindc r1 (Ev.iteT (by omega) (Ev.iteT (by omega) ?_))
    refine spec_l2 T hl (N : Int) l m i r (by omega) (by omega) _ (by split <;> (try simp) <;> omega) s ?_
    rw [any_succ] at ih
    cases hd : rowb T i r with
    | true =>
      rw [hd, Bool.or_true, if_pos rfl] at ih
      have e : (if (List.range r).any (rowb T i) = true then y.set i true else y).set i true = y.set i true := by split <;> simp
      rw [if_pos rfl, e]
      exact ih
    | false =>
      rw [hd, Bool.or_false] at ih
      rw [if_neg (by simp)]
      exact ih
/-- What is known after some inputs. -/
def known (T : List Int) (N i : Nat) : List Bool := (List.range N).map fun q => decide (q < i) && nb T (2 ^ N) q
theorem known_len (T : List Int) (N i : Nat) : (known T N i).length = N := by simp [known]
theorem known_zero (T : List Int) (N : Nat) : known T N 0 = List.replicate N false := by
  unfold known
  apply List.ext_getElem
  · simp
  · intro j h1 h2; simp
theorem known_next (T : List Int) (N i : Nat) (hi : i < N) : known T N (i + 1) = (known T N i).set i (nb T (2 ^ N) i) := by
  unfold known
  apply List.ext_getElem
  · simp
  · intro j h1 h2
    simp only [List.getElem_map, List.getElem_range, List.getElem_set]
    by_cases c : i = j
    · subst c; simp
    · rw [if_neg c, show decide (j < i + 1) = decide (j < i) by
        by_cases d : j < i
        · rw [decide_eq_true d, decide_eq_true (by omega)]
        · rw [decide_eq_false d, decide_eq_false (by omega)]]
theorem known_at (T : List Int) (N i : Nat) (hi : i < N) : (known T N i).getD i false = false := by
  rw [getD_at _ _ _ (by rw [known_len]; exact hi)]
  simp [known]
theorem known_if (T : List Int) (N i : Nat) (hi : i < N) : (if nb T (2 ^ N) i = true then (known T N i).set i true else known T N i) = known T N (i + 1) := by
  rw [known_next T N i hi]
  cases hb : nb T (2 ^ N) i with
  | true => rfl
  | false =>
    rw [if_neg (by simp)]
    apply List.ext_getElem
    · simp
    · intro j h1 h2
      rw [List.getElem_set]
      split
      · rename_i e
        subst e
        have := known_at T N i hi
        rwa [getD_at _ _ _ h1] at this
      · rfl
theorem spec_needs (T : List Int) (hl : T.length ≤ 8) (N : Nat) (hN : 1 ≤ N ∧ N ≤ 6) (l : List (S81)) (m : List Int) : Ev (fun k => spec_NeedsOf.l0 k T (List.replicate N false) 0 (N : Int) l m) (known T N N, 0) := by
  rw [← known_zero T N]
  refine ev_loop2 (g := fun k (i : Nat) => spec_NeedsOf.l0 k T (known T N i) (i : Int) (N : Int) l m) (fun i => i) N ?_ fun i hi ih => ?_
  · refine Ev.step (fun k => by rw [spec_NeedsOf.l0]) ?_
    rw [w64 (n := (N : Int)) (by omega)]
    exact Ev.iteF (by omega) (Ev.now _)
  · refine Ev.step (fun k => by rw [spec_NeedsOf.l0]) ?_
    rw [w64 (n := (N : Int)) (by omega)]
    refine Ev.iteT (by omega) (spec_l1 T hl N hN l m i hi _ (by rw [known_len]; exact hi) _ ?_)
    rw [known_if T N i hi]
    exact ih
theorem impl_one (T : List Int) (hT : ∀ v ∈ T, U64 v) (i r j : Nat) (hi : i < 6) (hr : r < 64) (hj : j < T.length) : impl_needs_1.f (T.getD j 0) [⟨(r : Int)⟩] [⟨(i : Int)⟩] = some (db T i r j) := by
  have o := ot_in i r hi hr
  have hv : U64 (T.getD j 0) := getD_mem hT 0 _ hj
  have bit : ∀ x, 0 ≤ x → impl_bit_uint64.f (T.getD j 0) x = some (tb (T.getD j 0) x == 1) := fun x hx => by unfold impl_bit_uint64.f; exact if_pos hx
  unfold impl_needs_1.f
  show (if (0 : Int) < 1 then ((impl_bit_uint64.f (T.getD j 0) (r : Int)).bind fun t => if (0 : Int) < 1 then (if 0 ≤ (i : Int) then ((impl_bit_uint64.f (T.getD j 0) (ot i r)).bind fun u => some (t != u)) else none) else none) else none) = _
  rw [if_pos (by decide), bit _ (by omega), bit _ o.1]
  simp only [Option.bind_some]
  rw [if_pos (by decide), if_pos (by omega)]
  unfold db
  rcases tb_two (x := (r : Int)) hv with e | e <;> rcases tb_two (x := ot i r) hv with f | f <;> rw [e, f] <;> rfl
theorem impl_row (T : List Int) (hT : ∀ v ∈ T, U64 v) (hl : T.length ≤ 8) (i r : Nat) (hi : i < 6) (hr : r < 64) : Ev (fun k => slices_ContainsFunc__impl_needs_1.f k T [⟨(r : Int)⟩] [⟨(i : Int)⟩]) (rowb T i r) := by
  obtain ⟨q, h1, h2⟩ := idx_loop (g := fun k j => slices_IndexFunc__impl_needs_1.l0 k T T.length j [⟨(r : Int)⟩] [⟨(i : Int)⟩]) (fun j => db T i r j = true) T.length
    (Ev.step (fun k => by rw [slices_IndexFunc__impl_needs_1.l0]) (Ev.iteF (by omega) (Ev.now _)))
    (fun j hj hd => by
      refine Ev.step (fun k => by rw [slices_IndexFunc__impl_needs_1.l0]) ?_
      simp only [rdi]
      exact Ev.iteT (by omega) (Ev.iteT (by omega) (Ev.iteT (by omega) (Ev.bindc (impl_one T hT i r j hi hr hj) (Ev.iteT hd (Ev.now _))))))
    (fun j hj hd s hs => by
      refine Ev.step (fun k => by rw [slices_IndexFunc__impl_needs_1.l0]) ?_
      simp only [rdi]
      refine Ev.iteT (by omega) (Ev.iteT (by omega) (Ev.iteT (by omega) (Ev.bindc (impl_one T hT i r j hi hr hj) (Ev.iteF hd ?_))))
      rw [w64 (by omega)]
      exact hs)
  unfold slices_ContainsFunc__impl_needs_1.f slices_IndexFunc__impl_needs_1.f
  refine Ev.bind h1 (ev_const ?_)
  congr 1
  refine bool_same (p := ∃ j, j < T.length ∧ db T i r j = true) (by rw [← h2]; simp) ?_
  unfold rowb
  rw [List.any_eq_true]
  exact ⟨fun ⟨j, a, b⟩ => ⟨j, List.mem_range.1 a, b⟩, fun ⟨j, a, b⟩ => ⟨j, List.mem_range.2 a, b⟩⟩
theorem impl_l1 (T : List Int) (hT : ∀ v ∈ T, U64 v) (hl : T.length ≤ 8) (N : Nat) (R : Nat) (hR : R ≤ 64) (i : Nat) (hi : i < 6) (y : List Bool) (hy : i < y.length) (hz : y.getD i false = false) (s : List Bool)
    (h : Ev (fun k => impl_needs.l0 k T (N : Int) (y.set i (nb T R i)) (N : Int) ((i + 1 : Nat) : Int)) s) : Ev (fun k => impl_needs.l1 k T (N : Int) y (N : Int) (i : Int) (R : Int) 0 (i : Int)) s := by
  have h0 : y.set i false = y := by
    apply List.ext_getElem
    · simp
    · intro j h1 h2
      rw [List.getElem_set]
      split
      · rename_i e
        subst e
        rw [getD_at _ _ _ h2] at hz
        exact hz.symm
      · rfl
  have key := ev_loop2 (g := fun k (r : Nat) => impl_needs.l1 k T (N : Int) (y.set i ((List.range r).any (rowb T i))) (N : Int) (i : Int) (R : Int) (r : Int) (i : Int)) (fun r => r) R (r := s) ?_ fun r hr ih => ?_
  · simpa [h0] using key
  · refine Ev.step (fun k => by rw [impl_needs.l1]) ?_
    refine Ev.iteF (by omega) ?_
    rw [w64 (n := (i : Int) + 1) (by omega)]
    exact h
  · have wr : wrap64 ((r : Int) + 1) = ((r + 1 : Nat) : Int) := w64 (by omega)
    have e : rdOf false (y.set i ((List.range r).any (rowb T i))) (i : Int) = (List.range r).any (rowb T i) := by
      show (y.set i ((List.range r).any (rowb T i))).getD ((i : Int)).toNat false = _
      rw [Int.toNat_natCast, getD_set y i false _ hy]
    rw [any_succ] at ih
    refine Ev.step (fun k => by rw [impl_needs.l1]) ?_
    simp only [wr, Int.toNat_natCast, List.set_set]
    refine Ev.iteT (by omega) (Ev.iteT (by omega) (Ev.iteT (by simp; omega) ?_))
    rw [e]
    cases hd : (List.range r).any (rowb T i) with
    | true =>
      rw [hd, Bool.true_or] at ih
      exact Ev.iteT rfl ih
    | false =>
      rw [hd, Bool.false_or] at ih
      exact Ev.iteF (by simp) (Ev.bind (impl_row T hT hl i r hi (by omega)) ih)
theorem impl_needs_ev (T : List Int) (hT : ∀ v ∈ T, U64 v) (hl : T.length ≤ 8) (N : Nat) (hN : 1 ≤ N ∧ N ≤ 6) : Ev (fun k => impl_needs.f k T (N : Int)) (known T N N) := by
  obtain ⟨_, r2, r3⟩ := spec_rows N hN
  unfold impl_needs.f
  refine Ev.iteT (by omega) (Ev.iteT (by rw [Int.toNat_natCast]; omega) (Ev.bindc rfl ?_))
  rw [Int.toNat_natCast, List.length_replicate, ← known_zero T N]
  refine ev_loop2 (g := fun k (i : Nat) => impl_needs.l0 k T (N : Int) (known T N i) (N : Int) (i : Int)) (fun i => i) N ?_ fun i hi ih => ?_
  · refine Ev.step (fun k => by rw [impl_needs.l0]) ?_
    exact Ev.iteF (by omega) (Ev.now _)
  · refine Ev.step (fun k => by rw [impl_needs.l0]) ?_
    refine Ev.iteT (by omega) (Ev.bindc r2 (impl_l1 T hT hl N (2 ^ N) r3 i (by omega) _ (by rw [known_len]; exact hi) (known_at T N i hi) _ ?_))
    rw [← known_next T N i hi]
    exact ih
set_option maxHeartbeats 4000000 in
theorem core (x0_0 : Int) (x0_1 : List (S81)) (x0_2 : List (Int)) (ox0_0 : (-128 ≤ x0_0 ∧ x0_0 ≤ 127)) (ox0_1 : ∀ y ∈ x0_1, ok81 y) (nx0_1 : x0_1.length ≤ 1048576) (ox0_2 : ∀ y ∈ x0_2, (-32768 ≤ y ∧ y ≤ 32767)) (nx0_2 : x0_2.length ≤ 1048576) : ∃ r : List Bool × Int, Ev (fun k => spec_NeedsOf.f k x0_0 x0_1 x0_2) r ∧ Ev (fun k => impl_NeedsOf.f k x0_0 x0_1 x0_2) r ∧ r.1.length ≤ 1099511627776 := by
  obtain ⟨r, h1, h2⟩ := spec_ok x0_0 x0_1 x0_2 ox0_0 ox0_1 nx0_1 ox0_2 nx0_2
  obtain ⟨q, h3, h4⟩ := impl_ok x0_0 x0_1 x0_2 ox0_0 ox0_1 nx0_1 ox0_2 nx0_2
  obtain rfl := bool_same h2 h4
  unfold spec_NeedsOf.f impl_NeedsOf.f
  cases r
  · exact ⟨([], 1), Ev.bind h1 (Ev.iteF (by simp) (Ev.now _)), Ev.bind h3 (Ev.iteF (by simp) (Ev.now _)), by simp⟩
  have ok := h2.1 rfl
  have hn := ok.inputs
  have hout := ok.outs
  obtain ⟨t, k1, k2, k3, k4⟩ := outputs_same x0_0 x0_1 x0_2 ox0_1 ok
  obtain ⟨N, rfl⟩ : ∃ N : Nat, x0_0 = N := ⟨x0_0.toNat, by omega⟩
  have a := spec_needs t (by omega) N (by omega) x0_1 x0_2
  have b := impl_needs_ev t k4 (by omega) N (by omega)
  refine ⟨(known t N N, 0), Ev.bind h1 (Ev.iteT rfl (Ev.bind k1 (Ev.iteT (by omega) (Ev.iteT (by rw [Int.toNat_natCast]; omega) ?_)))), Ev.bind h3 (Ev.iteT rfl (Ev.bind k2 ?_)), ?_⟩
  · rw [Int.toNat_natCast]; exact a
  · rw [w64 (n := (N : Int)) (by omega)]
    exact Ev.bind b (Ev.now _)
  · dsimp only; rw [known_len]; omega

theorem FnExactNeedsOf : QFnExactNeedsOf.Pure := by
  rintro ⟨x0_0, x0_1, x0_2⟩ ⟨wx0_0, wx0_1, wx0_2⟩
  have ox0_0 : (-128 ≤ x0_0 ∧ x0_0 ≤ 127) := i8b wx0_0
  obtain ⟨wx0_1, mx0_1⟩ := wx0_1
  have mx0_1 : x0_1.length ≤ 9223372036854775807 := mx0_1
  obtain ⟨wx0_2, mx0_2⟩ := wx0_2
  have mx0_2 : x0_2.length ≤ 9223372036854775807 := mx0_2
  refine Ev.rounds (r := true) ?_
  unfold laws_FnExactNeedsOf.f
  obtain ⟨r_0, e_0, c_0⟩ := szNetwork x0_0 x0_1 x0_2 (1048576) (by omega) mx0_1 mx0_2
  refine Ev.bindc e_0 ?_
  rcases c_0 with c_0 | ⟨rfl, c_0⟩
  · exact Ev.iteT c_0 (Ev.now _)
  refine Ev.iteF (by omega) ?_
  refine Ev.step (fun k => by rw [laws_FnExactNeedsOf.j0]) ?_
  try dsimp only
  refine Ev.bind (toNetwork _ _ _ (by first | omega | ((try dsimp only); (try simp only [List.length_map, List.length_range, List.length_nil]); omega) | (simp; omega)) (by first | omega | ((try dsimp only); (try simp only [List.length_map, List.length_range, List.length_nil]); omega) | (simp; omega))) ?_
  try dsimp only
  obtain ⟨⟨r0, r1⟩, hs, hi, hb⟩ := core x0_0 (x0_1.map cv131_81) x0_2 ox0_0 (fun y hy => by obtain ⟨z, hz, rfl⟩ := List.mem_map.1 hy; exact okof131_81 (wx0_1 z hz)) (by first | omega | ((try dsimp only); (try simp only [List.length_map, List.length_range, List.length_nil]); omega) | (simp; omega)) (fun y hy => (i16b (wx0_2 y hy))) (by first | omega | ((try dsimp only); (try simp only [List.length_map, List.length_range, List.length_nil]); omega) | (simp; omega))
  have b0 := hb
  try dsimp only at b0
  refine Ev.bind hs ?_
  try dsimp only
  refine Ev.bind (toNetwork _ _ _ (by first | omega | ((try dsimp only); (try simp only [List.length_map, List.length_range, List.length_nil]); omega) | (simp; omega)) (by first | omega | ((try dsimp only); (try simp only [List.length_map, List.length_range, List.length_nil]); omega) | (simp; omega))) ?_
  try dsimp only
  refine Ev.bind hi ?_
  try dsimp only
  refine Ev.bind (eqBoolS _ (by first | omega | ((try dsimp only); (try simp only [List.length_map, List.length_range, List.length_nil]); omega) | (simp; omega))) ?_
  try dsimp only
  refine Ev.iteT (by first | rfl | (first | omega | ((try dsimp only); (try simp only [List.length_map, List.length_range, List.length_nil]); omega) | (simp; omega))) ?_
  try dsimp only
  refine Ev.step (fun k => by rw [laws_FnExactNeedsOf.j1]) ?_
  try dsimp only
  refine Ev.iteF (by first | (simp; done) | (first | omega | ((try dsimp only); (try simp only [List.length_map, List.length_range, List.length_nil]); omega) | (simp; omega))) ?_
  try dsimp only
  refine Ev.step (fun k => by rw [laws_FnExactNeedsOf.j2]) ?_
  try dsimp only
  refine Ev.bind (toNetwork _ _ _ (by first | omega | ((try dsimp only); (try simp only [List.length_map, List.length_range, List.length_nil]); omega) | (simp; omega)) (by first | omega | ((try dsimp only); (try simp only [List.length_map, List.length_range, List.length_nil]); omega) | (simp; omega))) ?_
  try dsimp only
  refine Ev.bind (eqNetwork _ _ _ (by first | omega | ((try dsimp only); (try simp only [List.length_map, List.length_range, List.length_nil]); omega) | (simp; omega)) (by first | omega | ((try dsimp only); (try simp only [List.length_map, List.length_range, List.length_nil]); omega) | (simp; omega))) ?_
  try dsimp only
  refine Ev.iteT (by first | rfl | (first | omega | ((try dsimp only); (try simp only [List.length_map, List.length_range, List.length_nil]); omega) | (simp; omega))) ?_
  try dsimp only
  refine Ev.step (fun k => by rw [laws_FnExactNeedsOf.j3]) ?_
  try dsimp only
  refine Ev.bind (markNetwork _ _ _ _ (by first | omega | ((try dsimp only); (try simp only [List.length_map, List.length_range, List.length_nil]); omega) | (simp; omega)) (by first | omega | ((try dsimp only); (try simp only [List.length_map, List.length_range, List.length_nil]); omega) | (simp; omega)) (by first | omega | ((try dsimp only); (try simp only [List.length_map, List.length_range, List.length_nil]); omega) | (simp; omega))) ?_
  try dsimp only
  refine Ev.iteF (by first | (simp; done) | (first | omega | ((try dsimp only); (try simp only [List.length_map, List.length_range, List.length_nil]); omega) | (simp; omega))) ?_
  try dsimp only
  refine Ev.bind (eqBoolS _ (by first | omega | ((try dsimp only); (try simp only [List.length_map, List.length_range, List.length_nil]); omega) | (simp; omega))) ?_
  try dsimp only
  refine Ev.iteT (by first | rfl | (first | omega | ((try dsimp only); (try simp only [List.length_map, List.length_range, List.length_nil]); omega) | (simp; omega))) ?_
  try dsimp only
  refine Ev.step (fun k => by rw [laws_FnExactNeedsOf.j4]) ?_
  try dsimp only
  refine Ev.iteF (by first | (simp; done) | (first | omega | ((try dsimp only); (try simp only [List.length_map, List.length_range, List.length_nil]); omega) | (simp; omega))) ?_
  try dsimp only
  refine Ev.step (fun k => by rw [laws_FnExactNeedsOf.j5]) ?_
  try dsimp only
  refine Ev.bind (markBoolS _ _ (by first | omega | ((try dsimp only); (try simp only [List.length_map, List.length_range, List.length_nil]); omega) | (simp; omega)) (by first | omega | ((try dsimp only); (try simp only [List.length_map, List.length_range, List.length_nil]); omega) | (simp; omega))) ?_
  try dsimp only
  refine Ev.bind (heldBoolS _ _ (by first | omega | ((try dsimp only); (try simp only [List.length_map, List.length_range, List.length_nil]); omega) | (simp; omega)) (by first | omega | ((try dsimp only); (try simp only [List.length_map, List.length_range, List.length_nil]); omega) | (simp; omega))) ?_
  try dsimp only
  refine Ev.iteF (by first | (simp; done) | (first | omega | ((try dsimp only); (try simp only [List.length_map, List.length_range, List.length_nil]); omega) | (simp; omega))) ?_
  try dsimp only
  refine Ev.step (fun k => by rw [laws_FnExactNeedsOf.j6]) ?_
  try dsimp only
  refine Ev.iteT (by first | rfl | (first | omega | ((try dsimp only); (try simp only [List.length_map, List.length_range, List.length_nil]); omega) | (simp; omega))) ?_
  try dsimp only
  refine Ev.step (fun k => by rw [laws_FnExactNeedsOf.j7]) ?_
  try dsimp only
  refine Ev.bind (toNetwork _ _ _ (by first | omega | ((try dsimp only); (try simp only [List.length_map, List.length_range, List.length_nil]); omega) | (simp; omega)) (by first | omega | ((try dsimp only); (try simp only [List.length_map, List.length_range, List.length_nil]); omega) | (simp; omega))) ?_
  try dsimp only
  refine Ev.bind hi ?_
  try dsimp only
  refine Ev.bind (eqBoolS _ (by first | omega | ((try dsimp only); (try simp only [List.length_map, List.length_range, List.length_nil]); omega) | (simp; omega))) ?_
  try dsimp only
  refine Ev.iteT (by first | rfl | (first | omega | ((try dsimp only); (try simp only [List.length_map, List.length_range, List.length_nil]); omega) | (simp; omega))) ?_
  try dsimp only
  refine Ev.step (fun k => by rw [laws_FnExactNeedsOf.j8]) ?_
  try dsimp only
  refine Ev.iteF (by first | (simp; done) | (first | omega | ((try dsimp only); (try simp only [List.length_map, List.length_range, List.length_nil]); omega) | (simp; omega))) ?_
  try dsimp only
  refine Ev.step (fun k => by rw [laws_FnExactNeedsOf.j9]) ?_
  try dsimp only
  refine Ev.bind (heldBoolS _ _ (by first | omega | ((try dsimp only); (try simp only [List.length_map, List.length_range, List.length_nil]); omega) | (simp; omega)) (by first | omega | ((try dsimp only); (try simp only [List.length_map, List.length_range, List.length_nil]); omega) | (simp; omega))) ?_
  try dsimp only
  refine Ev.iteF (by first | (simp; done) | (first | omega | ((try dsimp only); (try simp only [List.length_map, List.length_range, List.length_nil]); omega) | (simp; omega))) ?_
  try dsimp only
  refine Ev.iteT (by first | rfl | (first | omega | ((try dsimp only); (try simp only [List.length_map, List.length_range, List.length_nil]); omega) | (simp; omega))) ?_
  try dsimp only
  exact Ev.now _
end Go.Proofs.Ytmpmanfoiocfgaa.Pure
