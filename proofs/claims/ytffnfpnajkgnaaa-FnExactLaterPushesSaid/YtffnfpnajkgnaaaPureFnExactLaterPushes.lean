/- The pure side of the law FnExactLaterPushes: for all arguments its Lean function answers true. No condition beside the arguments' kinds. -/
import Derived.Test.YtffnfpnajkgnaaaQFnExactLaterPushes
import Derived.Test.YtffnfpnajkgnaaaPB
namespace Go.Proofs.Ytffnfpnajkgnaaa.Pure
open Go.RowKit Go.Proofs.Ytffnfpnajkgnaaa.PFnExactLaterPushes Go.Proofs.YtffnfpnajkgnaaaW.PrintWords Go.Proofs.YtffnfpnajkgnaaaW.PrintLast Go.Proofs.YtffnfpnajkgnaaaX Go.Proofs.Ytffnfpnajkgnaaa.QFnExactLaterPushes Go.Proofs.YtffnfpnajkgnaaaB
set_option linter.unusedVariables false
set_option linter.unusedSimpArgs false

theorem eqCell (a0_0 : Int) (a0_1 : Int)  : Ev (fun k => laws_eqCell.f k a0_0 a0_1 a0_0 a0_1) true := by
  refine ⟨3, fun k hk => ?_⟩
  obtain ⟨m, rfl⟩ : ∃ m, k = m + 3 := ⟨k - 3, by omega⟩
  simp [laws_eqCell.f, laws_eqCell.l0, wrap64]
theorem eqPush (a0_0 : Int) (a0_1 : Int) (a0_2 : Int) (a0_3 : Int)  : Ev (fun k => laws_eqPush.f k a0_0 a0_1 a0_2 a0_3 a0_0 a0_1 a0_2 a0_3) true := by
  unfold laws_eqPush.f
  exact (Ev.bind (eqCell _ _ ) (Ev.iteT rfl (Ev.iteT rfl (Ev.iteT rfl (Ev.now _)))))
theorem eqPushS (l0 : List (S120)) (hl0 : l0.length ≤ 1099511627776) : Ev (fun k => laws_eqPushS.f k l0 l0) true := by
  unfold laws_eqPushS.f
  refine Ev.iteT rfl ?_
  refine ev_loop2 (g := fun k i => laws_eqPushS.l0 k l0 l0 i) (fun i => (i : Int)) l0.length (Ev.step (f := fun _ => some _) (fun k => by simp [laws_eqPushS.l0]) (Ev.now _)) fun i h ih => ?_
  refine Ev.step (fun k => by rw [laws_eqPushS.l0]) (Ev.iteT (by omega) (Ev.iteT (by omega) (Ev.iteT (by omega) ?_)))
  refine Ev.bind (eqPush _ _ _ _ ) (Ev.iteT rfl ?_)
  rw [w64 (by omega)]
  exact ih
def mk_PushS (k : Int) : S120 := ⟨⟨IntKind.i8.wrap k, IntKind.i8.wrap (k + 1)⟩, IntKind.i8.wrap (k + 2), IntKind.i16.wrap (k + 3)⟩
theorem markPushS (l0 : List (S120)) (k_ : Int) (hl0 : l0.length ≤ 1099511627776) (hk : 0 ≤ k_ ∧ (k_ + 4 * (l0.length : Int)) ≤ 4611686018427387904) : Ev (fun k => laws_markPushS.f k l0 k_) ((k_ + 4 * (l0.length : Int)), ((List.range l0.length).map fun (j : Nat) => mk_PushS (k_ + 4 * (j : Int)))) := by
  unfold laws_markPushS.f
  refine ev_mark (g := fun k x q i => laws_markPushS.l0 k x q i) mk_PushS 4 l0 k_ (Ev.step (f := fun _ => some _) (fun k => by simp [laws_markPushS.l0]) (Ev.now _)) fun i x h hx ih => ?_
  obtain ⟨q, hq⟩ : ∃ q, q = k_ + 4 * (i : Int) := ⟨_, rfl⟩
  rw [← hq] at ih ⊢
  have hqb : 0 ≤ q ∧ q + 4 ≤ 4611686018427387904 := by omega
  rw [show k_ + 4 * ((i + 1 : Nat) : Int) = q + 4 by omega] at ih
  have e0 : wrap64 (q + 1) = q + 1 := (w64 (by omega)).trans (by omega)
  have e1 : wrap64 ((q + 1) + 1) = q + 2 := (w64 (by omega)).trans (by omega)
  have e2 : wrap64 ((q + 2) + 1) = q + 3 := (w64 (by omega)).trans (by omega)
  have e3 : wrap64 ((q + 3) + 1) = q + 4 := (w64 (by omega)).trans (by omega)
  have ei : wrap64 ((i : Int) + 1) = ((i + 1 : Nat) : Int) := w64 (by omega)
  have hi1 : ((i : Int) < (x.length : Int)) = True := eq_true (by omega)
  have hi0 : (0 ≤ (i : Int)) = True := eq_true (by omega)
  have hs : ∀ a, (x.set i a).getD i z120 = a := fun a => getD_set x i z120 a (by omega)
  have st : ∀ k, laws_markPushS.l0 (k + 4) x q (i : Int) = laws_markPushS.l0 k (x.set i (mk_PushS q)) (q + 4) ((i + 1 : Nat) : Int) := fun k => by
    simp only [laws_markPushS.l0, laws_markPushS.l1]
    simp only [e0, e1, e2, e3, ei, (by decide +kernel : wrap64 (0 + 1) = 1), (by decide +kernel : wrap64 (1 + 1) = 2), show (((0 : Int) < 2) = True) from eq_true (by decide), show (((1 : Int) < 2) = True) from eq_true (by decide), show (((2 : Int) < 2) = False) from eq_false (by decide), show (((0 : Int) = 0) = True) from eq_true (by decide), show (((1 : Int) = 0) = False) from eq_false (by decide), show (((1 : Int) = 1) = True) from eq_true (by decide), hi1, hi0, if_true, if_false, Option.bind_some, Int.toNat_natCast, List.length_set, List.set_set, rd_T120, hs]
    rfl
  exact Ev.steps 4 st ih
theorem heldPushS (n : Nat) (k_ : Int) (hn : n ≤ 1099511627776) (hk : 0 ≤ k_ ∧ k_ + 4 * (n : Int) ≤ 4611686018427387904) : Ev (fun k => laws_heldPushS.f k ((List.range n).map fun (j : Nat) => mk_PushS (k_ + 4 * (j : Int))) k_) (k_ + 4 * (n : Int)) := by
  unfold laws_heldPushS.f
  obtain ⟨M, hM⟩ : ∃ M, M = ((List.range n).map fun (j : Nat) => mk_PushS (k_ + 4 * (j : Int))) := ⟨_, rfl⟩
  rw [← hM]
  have hl : M.length = n := by rw [hM]; simp
  have hv : ∀ i, i < n → M.getD i z120 = mk_PushS (k_ + 4 * (i : Int)) := fun i h => by rw [hM]; exact mark_at _ _ _ _ _ _ h
  clear hM
  have h0 := ev_loop2 (g := fun k (s : Int × Int) => laws_heldPushS.l0 k M s.1 s.2) (fun i => (k_ + 4 * (i : Int), (i : Int))) n (r := k_ + 4 * (n : Int)) (Ev.step (f := fun _ => some _) (fun k => by simp [laws_heldPushS.l0, hl]) (Ev.now _)) fun i h ih => ?_
  · simpa using h0
  dsimp only at ih ⊢
  have hs := hv i h
  obtain ⟨q, hq⟩ : ∃ q, q = k_ + 4 * (i : Int) := ⟨_, rfl⟩
  rw [← hq] at hs ⊢
  rw [show k_ + 4 * ((i + 1 : Nat) : Int) = q + 4 by omega] at ih
  have hqb : 0 ≤ q ∧ q + 4 ≤ 4611686018427387904 := by omega
  have e0 : wrap64 (q + 1) = q + 1 := (w64 (by omega)).trans (by omega)
  have e1 : wrap64 ((q + 1) + 1) = q + 2 := (w64 (by omega)).trans (by omega)
  have e2 : wrap64 ((q + 2) + 1) = q + 3 := (w64 (by omega)).trans (by omega)
  have e3 : wrap64 ((q + 3) + 1) = q + 4 := (w64 (by omega)).trans (by omega)
  have ei : wrap64 ((i : Int) + 1) = ((i + 1 : Nat) : Int) := w64 (by omega)
  have hi1 : ((i : Int) < (M.length : Int)) = True := eq_true (by omega)
  have hi0 : (0 ≤ (i : Int)) = True := eq_true (by omega)
  have st : ∀ k, laws_heldPushS.l0 (k + 4) M q (i : Int) = laws_heldPushS.l0 k M (q + 4) ((i + 1 : Nat) : Int) := fun k => by
    simp only [laws_heldPushS.l0, laws_heldPushS.l1]
    simp only [e0, e1, e2, e3, ei, (by decide +kernel : wrap64 (0 + 1) = 1), (by decide +kernel : wrap64 (1 + 1) = 2), show (((0 : Int) < 2) = True) from eq_true (by decide), show (((1 : Int) < 2) = True) from eq_true (by decide), show (((2 : Int) < 2) = False) from eq_false (by decide), show (((0 : Int) = 0) = True) from eq_true (by decide), show (((1 : Int) = 0) = False) from eq_false (by decide), show (((1 : Int) = 1) = True) from eq_true (by decide), hi1, hi0, if_true, if_false, Option.bind_some, Int.toNat_natCast, List.length_set, List.set_set, rd_T120, hs, mk_PushS]
  exact Ev.steps 4 st ih
theorem szPushS (l0 : List (S129)) (a_ : Int) (ha : 0 ≤ a_ ∧ a_ ≤ 1048576) (hl0 : l0.length ≤ 9223372036854775807) : ∃ r, laws_szPushS.f l0 a_ = some r ∧ (r < 0 ∨ (r = a_ - l0.length ∧ 0 ≤ r)) := by
  unfold laws_szPushS.f
  rw [w64 (n := a_ - l0.length) (by omega)]
  by_cases h : a_ - (l0.length : Int) < 0
  · exact ⟨-1, by rw [if_pos h], .inl (by omega)⟩
  · exact ⟨_, by rw [if_neg h], .inr ⟨rfl, by omega⟩⟩
theorem toCell (a0_0 : Int) (a0_1 : Int)  : Ev (fun k => laws_toCell.f k a0_0 a0_1) (a0_0, a0_1) := by
  refine ⟨3, fun k hk => ?_⟩
  obtain ⟨m, rfl⟩ : ∃ m, k = m + 3 := ⟨k - 3, by omega⟩
  simp [laws_toCell.f, laws_toCell.l0, wrap64]
theorem toPush (a0_0 : Int) (a0_1 : Int) (a0_2 : Int) (a0_3 : Int)  : Ev (fun k => laws_toPush.f k a0_0 a0_1 a0_2 a0_3) (a0_0, a0_1, a0_2, a0_3) := by
  unfold laws_toPush.f
  exact (Ev.bind (toCell _ _ ) (Ev.now _))
def cv71_74 (x : S71) : S74 := ⟨x.f0, x.f1⟩
def cv129_120 (x : S129) : S120 := ⟨cv71_74 x.f0, x.f1, x.f2⟩
theorem toPushS (l0 : List (S129)) (hl0 : l0.length ≤ 1099511627776) : Ev (fun k => laws_toPushS.f k l0) (l0.map cv129_120) := by
  suffices main : Ev (fun k => laws_toPushS.f k l0) (l0.map cv129_120) by exact main
  unfold laws_toPushS.f
  refine Ev.iteT (by omega) (Ev.iteT (by omega) ?_)
  rw [Int.toNat_natCast]
  refine ev_fill2 (g := fun k x i => laws_toPushS.l0 k l0 x i) cv129_120 l0 _ (Ev.step (f := fun _ => some _) (fun k => by simp [laws_toPushS.l0]) (Ev.now _)) fun i h x hx ih => ?_
  have eg : l0.getD i z129 = l0[i] := getD_at _ _ _ h
  refine Ev.step (fun k => by rw [laws_toPushS.l0]) (Ev.iteT (by omega) (Ev.iteT (by omega) ?_))
  simp only [rd_T129, Int.toNat_natCast, eg]
  refine Ev.bind (toPush _ _ _ _ ) ?_
  refine Ev.iteT (by omega) ?_
  rw [w64 (by omega)]
  exact ih
def ok74 (x : S74) : Prop := (-128 ≤ x.f0 ∧ x.f0 ≤ 127) ∧ (-128 ≤ x.f1 ∧ x.f1 ≤ 127)
def ok120 (x : S120) : Prop := ok74 x.f0 ∧ (-128 ≤ x.f1 ∧ x.f1 ≤ 127) ∧ (-32768 ≤ x.f2 ∧ x.f2 ≤ 32767)
theorem okof71_74 {x : S71} (h : wf71 x) : ok74 (cv71_74 x) := by
  obtain ⟨h0, h1⟩ := h
  exact ⟨(i8b h0), (i8b h1)⟩
theorem okof129_120 {x : S129} (h : wf129 x) : ok120 (cv129_120 x) := by
  obtain ⟨h0, h1, h2⟩ := h
  exact ⟨(okof71_74 h0), (i8b h1), (i16b h2)⟩
theorem in_same : spec_l00In.f = impl_in.f := rfl
theorem in_some (a b c : Int) : impl_in.f a b c = some (decide (b ≤ a ∧ a ≤ c)) := by
  unfold impl_in.f
  by_cases h : b ≤ a <;> simp [h]
theorem rdp (l : List (S120)) (i : Nat) : rd_T120 l (i : Int) = l.getD i z120 := id rfl
theorem core (x0 : List (S120)) (x1 : Int) (ox0 : ∀ y ∈ x0, ok120 y) (nx0 : x0.length ≤ 1048576) (ox1 : (-9223372036854775808 ≤ x1 ∧ x1 ≤ 9223372036854775807)) : ∃ r : (List (S120)) × Int, Ev (fun k => spec_LaterPushes.f k x0 x1) r ∧ Ev (fun k => impl_LaterPushes.f k x0 x1) r ∧ r.1.length ≤ 1099511627776 := by
  unfold spec_LaterPushes.f impl_LaterPushes.f
  simp only [in_same, in_some]
  by_cases h1 : -1000 ≤ x1 ∧ x1 ≤ 1000
  · by_cases h2 : (x0.length : Int) > 20
    · exact ⟨([], 3), Ev.bindc rfl (Ev.iteT (by simpa using h1) (Ev.iteT h2 (Ev.now _))), Ev.bindc rfl (Ev.iteT (by simpa using h1) (Ev.iteT h2 (Ev.now _))), by simp⟩
    · suffices key : ∃ r : List (S120) × Int, Ev (fun k => spec_LaterPushes.l0 k x0 x1 [] 0) r ∧ Ev (fun k => impl_LaterPushes.l0 k x1 [] x0 x0.length 0) r ∧ r.1.length ≤ 1099511627776 by
        obtain ⟨r, k1, k2, k3⟩ := key
        exact ⟨r, Ev.bindc rfl (Ev.iteT (by simpa using h1) (Ev.iteF h2 k1)), Ev.bindc rfl (Ev.iteT (by simpa using h1) (Ev.iteF h2 k2)), k3⟩
      refine ev_pair (σ := List (S120)) (ρ := List (S120) × Int) (fun i t => t.length = i) x0.length (fun i t k => spec_LaterPushes.l0 k x0 x1 t i) (fun i t k => impl_LaterPushes.l0 k x1 t x0 x0.length i) (fun r => r.1.length ≤ 1099511627776) ?_ ?_ [] rfl
      · intro t ht
        refine ⟨(t, 0), ?_, ?_, by dsimp only; omega⟩
        · refine Ev.step (fun k => by rw [spec_LaterPushes.l0]) ?_
          exact Ev.iteF (by omega) (Ev.now _)
        · refine Ev.step (fun k => by rw [impl_LaterPushes.l0]) ?_
          exact Ev.iteF (by omega) (Ev.now _)
      · intro i t hi ht
        have hb : ok120 (x0.getD i z120) := getD_mem ox0 _ _ hi
        obtain ⟨⟨⟨a, b⟩, c, d⟩, hX⟩ : ∃ x, x = x0.getD i z120 := ⟨_, rfl⟩
        have wi : wrap64 ((i : Int) + 1) = ((i + 1 : Nat) : Int) := w64 (by omega)
        rw [← hX] at hb
        obtain ⟨_, _, b2⟩ := hb
        dsimp only at b2
        have s1 : ∀ r, Ev (fun k => spec_LaterPushes.l0 k x0 x1 t i) r ↔ Ev (fun k => spec_LaterPushes.l0 (k + 1) x0 x1 t i) r := fun r => ⟨fun ⟨K, h⟩ => ⟨K, fun k hk => h _ (by omega)⟩, fun h => Ev.step (fun _ => rfl) h⟩
        have s2 : ∀ r, Ev (fun k => impl_LaterPushes.l0 k x1 t x0 x0.length i) r ↔ Ev (fun k => impl_LaterPushes.l0 (k + 1) x1 t x0 x0.length i) r := fun r => ⟨fun ⟨K, h⟩ => ⟨K, fun k hk => h _ (by omega)⟩, fun h => Ev.step (fun _ => rfl) h⟩
        have e1 : wrap64 d = d := w64 (by omega)
        have e2 : wrap64 (d + x1) = d + x1 := w64 (by omega)
        have e3 : IntKind.i16.wrap x1 = x1 := w16 (by omega)
        simp only [spec_LaterPushes.l0, impl_LaterPushes.l0, in_same, in_some, rdp, ← hX, wi, e1, e2, e3, Option.bind_some] at s1 s2
        have c1 : (i : Int) < (x0.length : Int) := by omega
        have c2 : 0 ≤ (i : Int) := by omega
        have c4 : t.length < 23456248059221 := by omega
        simp only [c1, c2, c4, if_true] at s1 s2
        by_cases h3 : 0 ≤ d ∧ d ≤ 1000
        · by_cases h4 : 0 ≤ d + x1 ∧ d + x1 ≤ 1000
          · exact .inl ⟨t ++ [⟨⟨a, b⟩, c, IntKind.i16.wrap (d + x1)⟩], by simp [ht], fun r => ⟨fun h => (s1 r).2 (Ev.iteT (by simpa using h3) (Ev.iteT (by simpa using h4) h)), fun h => (s2 r).2 (Ev.iteT (by simpa using h3) (Ev.iteT (by simpa using h4) h))⟩⟩
          · exact .inr ⟨([], 3), (s1 _).2 (Ev.iteT (by simpa using h3) (Ev.iteF (by simpa using h4) (Ev.now _))), (s2 _).2 (Ev.iteT (by simpa using h3) (Ev.iteF (by simpa using h4) (Ev.now _))), by simp⟩
        · exact .inr ⟨([], 3), (s1 _).2 (Ev.iteF (by simpa using h3) (Ev.now _)), (s2 _).2 (Ev.iteF (by simpa using h3) (Ev.now _)), by simp⟩
  · exact ⟨([], 2), Ev.bindc rfl (Ev.iteF (by simpa using h1) (Ev.now _)), Ev.bindc rfl (Ev.iteF (by simpa using h1) (Ev.now _)), by simp⟩

theorem FnExactLaterPushes : QFnExactLaterPushes.Pure := by
  rintro x0 x1 wx0 wx1
  obtain ⟨wx0, mx0⟩ := wx0
  have mx0 : x0.length ≤ 9223372036854775807 := mx0
  have ox1 : (-9223372036854775808 ≤ x1 ∧ x1 ≤ 9223372036854775807) := i64b wx1
  refine Ev.rounds (r := true) ?_
  unfold laws_FnExactLaterPushes.f
  obtain ⟨r_0, e_0, c_0⟩ := szPushS x0 (1048576) (by omega) mx0
  refine Ev.bindc e_0 ?_
  rcases c_0 with c_0 | ⟨rfl, c_0⟩
  · exact Ev.iteT c_0 (Ev.now _)
  refine Ev.iteF (by omega) ?_
  refine Ev.step (fun k => by rw [laws_FnExactLaterPushes.j0]) ?_
  try dsimp only
  refine Ev.bind (toPushS _ (by first | omega | ((try dsimp only); (try simp only [List.length_map, List.length_range, List.length_nil]); omega) | (simp; omega))) ?_
  try dsimp only
  obtain ⟨⟨r0, r1⟩, hs, hi, hb⟩ := core (x0.map cv129_120) x1 (fun y hy => by obtain ⟨z, hz, rfl⟩ := List.mem_map.1 hy; exact okof129_120 (wx0 z hz)) (by first | omega | ((try dsimp only); (try simp only [List.length_map, List.length_range, List.length_nil]); omega) | (simp; omega)) ox1
  have b0 := hb
  try dsimp only at b0
  refine Ev.bind hs ?_
  try dsimp only
  refine Ev.bind (toPushS _ (by first | omega | ((try dsimp only); (try simp only [List.length_map, List.length_range, List.length_nil]); omega) | (simp; omega))) ?_
  try dsimp only
  refine Ev.bind hi ?_
  try dsimp only
  refine Ev.bind (eqPushS _ (by first | omega | ((try dsimp only); (try simp only [List.length_map, List.length_range, List.length_nil]); omega) | (simp; omega))) ?_
  try dsimp only
  refine Ev.iteT (by first | rfl | (first | omega | ((try dsimp only); (try simp only [List.length_map, List.length_range, List.length_nil]); omega) | (simp; omega))) ?_
  try dsimp only
  refine Ev.step (fun k => by rw [laws_FnExactLaterPushes.j1]) ?_
  try dsimp only
  refine Ev.iteF (by first | (simp; done) | (first | omega | ((try dsimp only); (try simp only [List.length_map, List.length_range, List.length_nil]); omega) | (simp; omega))) ?_
  try dsimp only
  refine Ev.step (fun k => by rw [laws_FnExactLaterPushes.j2]) ?_
  try dsimp only
  refine Ev.bind (toPushS _ (by first | omega | ((try dsimp only); (try simp only [List.length_map, List.length_range, List.length_nil]); omega) | (simp; omega))) ?_
  try dsimp only
  refine Ev.bind (eqPushS _ (by first | omega | ((try dsimp only); (try simp only [List.length_map, List.length_range, List.length_nil]); omega) | (simp; omega))) ?_
  try dsimp only
  refine Ev.iteT (by first | rfl | (first | omega | ((try dsimp only); (try simp only [List.length_map, List.length_range, List.length_nil]); omega) | (simp; omega))) ?_
  try dsimp only
  refine Ev.step (fun k => by rw [laws_FnExactLaterPushes.j3]) ?_
  try dsimp only
  refine Ev.bind (markPushS _ _ (by first | omega | ((try dsimp only); (try simp only [List.length_map, List.length_range, List.length_nil]); omega) | (simp; omega)) (by first | omega | ((try dsimp only); (try simp only [List.length_map, List.length_range, List.length_nil]); omega) | (simp; omega))) ?_
  try dsimp only
  refine Ev.iteF (by first | (simp; done) | (first | omega | ((try dsimp only); (try simp only [List.length_map, List.length_range, List.length_nil]); omega) | (simp; omega))) ?_
  try dsimp only
  refine Ev.bind (eqPushS _ (by first | omega | ((try dsimp only); (try simp only [List.length_map, List.length_range, List.length_nil]); omega) | (simp; omega))) ?_
  try dsimp only
  refine Ev.iteT (by first | rfl | (first | omega | ((try dsimp only); (try simp only [List.length_map, List.length_range, List.length_nil]); omega) | (simp; omega))) ?_
  try dsimp only
  refine Ev.step (fun k => by rw [laws_FnExactLaterPushes.j4]) ?_
  try dsimp only
  refine Ev.iteF (by first | (simp; done) | (first | omega | ((try dsimp only); (try simp only [List.length_map, List.length_range, List.length_nil]); omega) | (simp; omega))) ?_
  try dsimp only
  refine Ev.step (fun k => by rw [laws_FnExactLaterPushes.j5]) ?_
  try dsimp only
  refine Ev.bind (markPushS _ _ (by first | omega | ((try dsimp only); (try simp only [List.length_map, List.length_range, List.length_nil]); omega) | (simp; omega)) (by first | omega | ((try dsimp only); (try simp only [List.length_map, List.length_range, List.length_nil]); omega) | (simp; omega))) ?_
  try dsimp only
  refine Ev.bind (heldPushS _ _ (by first | omega | ((try dsimp only); (try simp only [List.length_map, List.length_range, List.length_nil]); omega) | (simp; omega)) (by first | omega | ((try dsimp only); (try simp only [List.length_map, List.length_range, List.length_nil]); omega) | (simp; omega))) ?_
  try dsimp only
  refine Ev.iteF (by first | (simp; done) | (first | omega | ((try dsimp only); (try simp only [List.length_map, List.length_range, List.length_nil]); omega) | (simp; omega))) ?_
  try dsimp only
  refine Ev.step (fun k => by rw [laws_FnExactLaterPushes.j6]) ?_
  try dsimp only
  refine Ev.iteT (by first | rfl | (first | omega | ((try dsimp only); (try simp only [List.length_map, List.length_range, List.length_nil]); omega) | (simp; omega))) ?_
  try dsimp only
  refine Ev.step (fun k => by rw [laws_FnExactLaterPushes.j7]) ?_
  try dsimp only
  refine Ev.bind (toPushS _ (by first | omega | ((try dsimp only); (try simp only [List.length_map, List.length_range, List.length_nil]); omega) | (simp; omega))) ?_
  try dsimp only
  refine Ev.bind hi ?_
  try dsimp only
  refine Ev.bind (eqPushS _ (by first | omega | ((try dsimp only); (try simp only [List.length_map, List.length_range, List.length_nil]); omega) | (simp; omega))) ?_
  try dsimp only
  refine Ev.iteT (by first | rfl | (first | omega | ((try dsimp only); (try simp only [List.length_map, List.length_range, List.length_nil]); omega) | (simp; omega))) ?_
  try dsimp only
  refine Ev.step (fun k => by rw [laws_FnExactLaterPushes.j8]) ?_
  try dsimp only
  refine Ev.iteF (by first | (simp; done) | (first | omega | ((try dsimp only); (try simp only [List.length_map, List.length_range, List.length_nil]); omega) | (simp; omega))) ?_
  try dsimp only
  refine Ev.step (fun k => by rw [laws_FnExactLaterPushes.j9]) ?_
  try dsimp only
  refine Ev.bind (heldPushS _ _ (by first | omega | ((try dsimp only); (try simp only [List.length_map, List.length_range, List.length_nil]); omega) | (simp; omega)) (by first | omega | ((try dsimp only); (try simp only [List.length_map, List.length_range, List.length_nil]); omega) | (simp; omega))) ?_
  try dsimp only
  refine Ev.iteF (by first | (simp; done) | (first | omega | ((try dsimp only); (try simp only [List.length_map, List.length_range, List.length_nil]); omega) | (simp; omega))) ?_
  try dsimp only
  refine Ev.iteT (by first | rfl | (first | omega | ((try dsimp only); (try simp only [List.length_map, List.length_range, List.length_nil]); omega) | (simp; omega))) ?_
  try dsimp only
  exact Ev.now _
end Go.Proofs.Ytffnfpnajkgnaaa.Pure
