/- The pure side of the law FnExactSameFalls: for all arguments its Lean function answers true. No condition beside the arguments' kinds. -/
import Derived.Test.YtkcbcbannbllaaaQFnExactSameFalls
import Derived.Test.YtkcbcbannbllaaaPB
namespace Go.Proofs.Ytkcbcbannbllaaa.Pure
open Go.RowKit Go.Proofs.Ytkcbcbannbllaaa.PFnExactSameFalls Go.Proofs.YtkcbcbannbllaaaW.PrintWords Go.Proofs.YtkcbcbannbllaaaW.PrintLast Go.Proofs.YtkcbcbannbllaaaX Go.Proofs.Ytkcbcbannbllaaa.QFnExactSameFalls Go.Proofs.YtkcbcbannbllaaaB
set_option linter.unusedVariables false
set_option linter.unusedSimpArgs false

theorem szFallS (l0 : List (S84)) (a_ : Int) (ha : 0 ≤ a_ ∧ a_ ≤ 1048576) (hl0 : l0.length ≤ 9223372036854775807) : ∃ r, laws_szFallS.f l0 a_ = some r ∧ (r < 0 ∨ (r = a_ - l0.length ∧ 0 ≤ r)) := by
  unfold laws_szFallS.f
  rw [w64 (n := a_ - l0.length) (by omega)]
  by_cases h : a_ - (l0.length : Int) < 0
  · exact ⟨-1, by rw [if_pos h], .inl (by omega)⟩
  · exact ⟨_, by rw [if_neg h], .inr ⟨rfl, by omega⟩⟩
theorem toFall (a0_0 : Int) (a0_1 : Int) (a0_2 : Int)  : laws_toFall.f a0_0 a0_1 a0_2 = some (a0_0, a0_1, a0_2) := by
  unfold laws_toFall.f
  simp
def cv84_82 (x : S84) : S82 := ⟨x.f0, x.f1, x.f2⟩
theorem toFallS (l0 : List (S84)) (hl0 : l0.length ≤ 1099511627776) : Ev (fun k => laws_toFallS.f k l0) (l0.map cv84_82) := by
  suffices main : Ev (fun k => laws_toFallS.f k l0) (l0.map cv84_82) by exact main
  unfold laws_toFallS.f
  refine Ev.iteT (by omega) (Ev.iteT (by omega) ?_)
  rw [Int.toNat_natCast]
  refine ev_fill2 (g := fun k x i => laws_toFallS.l0 k l0 x i) cv84_82 l0 _ (Ev.step (f := fun _ => some _) (fun k => by simp [laws_toFallS.l0]) (Ev.now _)) fun i h x hx ih => ?_
  have eg : l0.getD i z84 = l0[i] := getD_at _ _ _ h
  refine Ev.step (fun k => by rw [laws_toFallS.l0]) (Ev.iteT (by omega) (Ev.iteT (by omega) ?_))
  simp only [rd_T84, Int.toNat_natCast, eg]
  refine Ev.bindc (toFall _ _ _ ) ?_
  refine Ev.iteT (by omega) ?_
  rw [w64 (by omega)]
  exact ih
theorem eqFall (a0_0 : Int) (a0_1 : Int) (a0_2 : Int)  : laws_eqFall.f a0_0 a0_1 a0_2 a0_0 a0_1 a0_2 = some true := by
  unfold laws_eqFall.f
  simp
theorem eqFallS (l0 : List (S82)) (hl0 : l0.length ≤ 1099511627776) : Ev (fun k => laws_eqFallS.f k l0 l0) true := by
  unfold laws_eqFallS.f
  refine Ev.iteT rfl ?_
  refine ev_loop2 (g := fun k i => laws_eqFallS.l0 k l0 l0 i) (fun i => (i : Int)) l0.length (Ev.step (f := fun _ => some _) (fun k => by simp [laws_eqFallS.l0]) (Ev.now _)) fun i h ih => ?_
  refine Ev.step (fun k => by rw [laws_eqFallS.l0]) (Ev.iteT (by omega) (Ev.iteT (by omega) (Ev.iteT (by omega) ?_)))
  refine Ev.bindc (eqFall _ _ _ ) (Ev.iteT rfl ?_)
  rw [w64 (by omega)]
  exact ih
def ok82 (x : S82) : Prop := (-9223372036854775808 ≤ x.f0 ∧ x.f0 ≤ 9223372036854775807) ∧ (-128 ≤ x.f1 ∧ x.f1 ≤ 127) ∧ (-9223372036854775808 ≤ x.f2 ∧ x.f2 ≤ 9223372036854775807)
theorem okof84_82 {x : S84} (h : wf84 x) : ok82 (cv84_82 x) := by
  obtain ⟨h0, h1, h2⟩ := h
  exact ⟨(i64b h0), (i8b h1), (i64b h2)⟩
theorem fall_ne (a b : S82) : (!(a.f0 == b.f0) || (!(a.f1 == b.f1) || !(a.f2 == b.f2))) = true ↔ a ≠ b := by
  obtain ⟨a0, a1, a2⟩ := a
  obtain ⟨b0, b1, b2⟩ := b
  simp
  by_cases h : a0 = b0 <;> by_cases h' : a1 = b1 <;> simp [h, h']
theorem fall_loop (l m : List (S82)) (hl : l.length ≤ 1048576) (hlm : l.length = m.length) : ∃ r, Ev (fun k => impl_Fall.l0 k l m l.length 0) r ∧ (r = true ↔ l = m) := by
  rw [← eq_of_getD z82 hlm]
  refine ev_all (g := fun k i => impl_Fall.l0 k l m l.length i) _ (fun k => by simp [impl_Fall.l0]) (fun i h hp => ⟨0, fun k _ => ?_⟩) (fun i h hp => ⟨0, fun k _ => ?_⟩)
  all_goals
    simp only [impl_Fall.l0]
    rw [if_pos (by omega), if_pos (by omega), if_pos (by omega), if_pos (by omega)]
  · refine Eq.trans (if_neg (fun h => (fall_ne _ _).1 h hp)) ?_; rw [w64 (by omega)]; rfl
  · exact if_pos ((fall_ne _ _).2 hp)
theorem spec_loop (l m : List (S82)) (hl : l.length ≤ 1048576) (hlm : l.length = m.length) : ∃ r, Ev (fun k => spec_l02Same.l0 k l m 0) r ∧ (r = true ↔ l = m) := by
  rw [← eq_of_getD z82 hlm]
  refine ev_all (g := fun k i => spec_l02Same.l0 k l m i) _ (fun k => by simp [spec_l02Same.l0]) (fun i h hp => ⟨0, fun k _ => ?_⟩) (fun i h hp => ⟨0, fun k _ => ?_⟩)
  all_goals
    simp only [spec_l02Same.l0]
    rw [if_pos (by omega), if_pos (by omega), if_pos (by omega)]
  · refine Eq.trans (if_neg (fun h => (fall_ne _ _).1 h hp)) ?_; rw [w64 (by omega)]; rfl
  · exact if_pos ((fall_ne _ _).2 hp)
theorem core (x0 : List (S82)) (x1 : List (S82)) (ox0 : ∀ y ∈ x0, ok82 y) (nx0 : x0.length ≤ 1048576) (ox1 : ∀ y ∈ x1, ok82 y) (nx1 : x1.length ≤ 1048576) : ∃ r : Bool, Ev (fun k => spec_SameFalls.f k x0 x1) r ∧ Ev (fun k => impl_SameFalls.f k x0 x1) r ∧ True := by
  unfold spec_SameFalls.f impl_SameFalls.f spec_l02Same.f impl_Fall.f
  by_cases h : x0.length = x1.length
  · obtain ⟨r, h1, h2⟩ := fall_loop x0 x1 nx0 h
    obtain ⟨q, h3, h4⟩ := spec_loop x0 x1 nx0 h
    obtain rfl := bool_same h2 h4
    exact ⟨r, Ev.bind (Ev.iteT (by omega) h3) (Ev.now _), Ev.bind (Ev.iteT (by omega) h1) (Ev.now _), trivial⟩
  · exact ⟨false, Ev.bind (Ev.iteF (by omega) (Ev.now _)) (Ev.now _), Ev.bind (Ev.iteF (by omega) (Ev.now _)) (Ev.now _), trivial⟩

theorem FnExactSameFalls : QFnExactSameFalls.Pure := by
  rintro x0 x1 wx0 wx1
  obtain ⟨wx0, mx0⟩ := wx0
  have mx0 : x0.length ≤ 9223372036854775807 := mx0
  obtain ⟨wx1, mx1⟩ := wx1
  have mx1 : x1.length ≤ 9223372036854775807 := mx1
  refine Ev.rounds (r := true) ?_
  unfold laws_FnExactSameFalls.f
  obtain ⟨r_0, e_0, c_0⟩ := szFallS x0 (1048576) (by omega) mx0
  refine Ev.bindc e_0 ?_
  rcases c_0 with c_0 | ⟨rfl, c_0⟩
  · exact Ev.iteT c_0 (Ev.now _)
  refine Ev.iteF (by omega) ?_
  refine Ev.step (fun k => by rw [laws_FnExactSameFalls.j0]) ?_
  try dsimp only
  obtain ⟨r_1, e_1, c_1⟩ := szFallS x1 (1048576 - x0.length) (by omega) mx1
  refine Ev.bindc e_1 ?_
  rcases c_1 with c_1 | ⟨rfl, c_1⟩
  · exact Ev.iteT c_1 (Ev.now _)
  refine Ev.iteF (by omega) ?_
  refine Ev.step (fun k => by rw [laws_FnExactSameFalls.j1]) ?_
  try dsimp only
  refine Ev.bind (toFallS _ (by first | omega | ((try dsimp only); (try simp only [List.length_map, List.length_range, List.length_nil]); omega) | (simp; omega))) ?_
  try dsimp only
  refine Ev.bind (toFallS _ (by first | omega | ((try dsimp only); (try simp only [List.length_map, List.length_range, List.length_nil]); omega) | (simp; omega))) ?_
  try dsimp only
  obtain ⟨r0, hs, hi, hb⟩ := core (x0.map cv84_82) (x1.map cv84_82) (fun y hy => by obtain ⟨z, hz, rfl⟩ := List.mem_map.1 hy; exact okof84_82 (wx0 z hz)) (by first | omega | ((try dsimp only); (try simp only [List.length_map, List.length_range, List.length_nil]); omega) | (simp; omega)) (fun y hy => by obtain ⟨z, hz, rfl⟩ := List.mem_map.1 hy; exact okof84_82 (wx1 z hz)) (by first | omega | ((try dsimp only); (try simp only [List.length_map, List.length_range, List.length_nil]); omega) | (simp; omega))
  refine Ev.bind hs ?_
  try dsimp only
  refine Ev.bind (toFallS _ (by first | omega | ((try dsimp only); (try simp only [List.length_map, List.length_range, List.length_nil]); omega) | (simp; omega))) ?_
  try dsimp only
  refine Ev.bind (toFallS _ (by first | omega | ((try dsimp only); (try simp only [List.length_map, List.length_range, List.length_nil]); omega) | (simp; omega))) ?_
  try dsimp only
  refine Ev.bind hi ?_
  try dsimp only
  refine Ev.iteF (by first | (simp; done) | (first | omega | ((try dsimp only); (try simp only [List.length_map, List.length_range, List.length_nil]); omega) | (simp; omega))) ?_
  try dsimp only
  refine Ev.step (fun k => by rw [laws_FnExactSameFalls.j2]) ?_
  try dsimp only
  refine Ev.bind (toFallS _ (by first | omega | ((try dsimp only); (try simp only [List.length_map, List.length_range, List.length_nil]); omega) | (simp; omega))) ?_
  try dsimp only
  refine Ev.bind (eqFallS _ (by first | omega | ((try dsimp only); (try simp only [List.length_map, List.length_range, List.length_nil]); omega) | (simp; omega))) ?_
  try dsimp only
  refine Ev.iteT (by first | rfl | (first | omega | ((try dsimp only); (try simp only [List.length_map, List.length_range, List.length_nil]); omega) | (simp; omega))) ?_
  try dsimp only
  refine Ev.step (fun k => by rw [laws_FnExactSameFalls.j3]) ?_
  try dsimp only
  refine Ev.bind (toFallS _ (by first | omega | ((try dsimp only); (try simp only [List.length_map, List.length_range, List.length_nil]); omega) | (simp; omega))) ?_
  try dsimp only
  refine Ev.bind (eqFallS _ (by first | omega | ((try dsimp only); (try simp only [List.length_map, List.length_range, List.length_nil]); omega) | (simp; omega))) ?_
  try dsimp only
  refine Ev.iteT (by first | rfl | (first | omega | ((try dsimp only); (try simp only [List.length_map, List.length_range, List.length_nil]); omega) | (simp; omega))) ?_
  try dsimp only
  exact Ev.now _
end Go.Proofs.Ytkcbcbannbllaaa.Pure
