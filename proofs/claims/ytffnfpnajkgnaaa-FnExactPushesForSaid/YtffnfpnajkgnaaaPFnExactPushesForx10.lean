-- WRITTEN by xprint.py, a program of this session's. Not trusted: Lean checks it.
-- packed by pack.py
import Derived.Test.YtffnfpnajkgnaaaPFnExactPushesForx0
import Derived.Test.YtffnfpnajkgnaaaPFnExactPushesForx1
import Derived.Test.YtffnfpnajkgnaaaPFnExactPushesForx2
import Derived.Test.YtffnfpnajkgnaaaPFnExactPushesForx9
import Derived.Test.YtffnfpnajkgnaaaTFnExactPushesFora
namespace Go.Proofs.Ytffnfpnajkgnaaa.PFnExactPushesFor
open Go.RowKit Go.Proofs.YtffnfpnajkgnaaaW.PrintWords Go.Proofs.YtffnfpnajkgnaaaW.PrintLast Go.Proofs.YtffnfpnajkgnaaaW.PrintMore Go.Proofs.YtffnfpnajkgnaaaX
attribute [local go_sem] max2_int min2_int max_two min_two max_three min_three max_four min_four   -- for this text's walks alone
set_option linter.unusedVariables false
set_option linter.unusedSimpArgs false

attribute [local go_sem high] eqA74 eqA116
/-! ### impl_Board_has: function 109 -/
def impl_Board_has.f (l0 : List (S37)) (a1_0 : Int) (a1_1 : Int) : Option (Bool) := if a1_0 ≥ 0 then (if 0 < (l0.length : Int) then (if a1_0 < ((rd_T37 l0 0).f0) then (if a1_1 ≥ 0 then (some (decide (a1_1 < ((rd_T37 l0 0).f1)))) else (some false)) else (some false)) else (none)) else (some false)
set_option maxHeartbeats 8000000 in
set_option maxRecDepth 100000 in
theorem impl_Board_has.calls (adp0 : Addr) (l0 : List (S37)) (a1_0 : Int) (a1_1 : Int) (r : Bool) (w : World) (hr0 : Kd.C k37 w (some adp0) l0.length l0) (h : impl_Board_has.f l0 a1_0 a1_1 = some r) :
    Calls Try.prog 109 #[.pointer (some adp0), .agg #[.int .i8 a1_0, .int .i8 a1_1]] w fun e w' => e = .returned (.bool r) ∧ Below w.heap.size w w' := by
 have hu74 := Try.underlying74
 have HR0 := Aside0.mk hr0
 clear hr0
 have HB := Aside0.mk (Below.refl w.heap.size w)
 have H : (if a1_0 ≥ 0 then (if 0 < (l0.length : Int) then (if a1_0 < ((rd_T37 l0 0).f0) then (if a1_1 ≥ 0 then (some (decide (a1_1 < ((rd_T37 l0 0).f1)))) else (some false)) else (some false)) else (none)) else (some false)) = some r := h
 clear h
 by_cases c3 : a1_0 ≥ 0
 rotate_left
 ·rw [if_neg c3] at H
  have c3b0 : decide (0 ≤ a1_0) = false := decide_eq_false c3
  clear c3
  obtain rfl := Option.some.inj H
  go_enter Try.func109, Try.ntmps109
  go_wp2_with (first | ((with_reducible refine gate_dst (N := 3) rfl ?_); refine box_event ?hg (N := 3) ?hd (cs := #[.int .i8 a1_0, .int .i8 a1_1]) (t := 74) ?hr ?_; (case hd => rfl); (case hg => rfl); (case hr => first | (go_simp; done) | (go_simp; rfl)); intro gb261 hg w13 hbox hb; have n_ : _ ∧ _ ∧ _ ∧ _ := ⟨zb HB hb, Aside0.mk (hbox), zg HB hg, zg HB hg⟩; clear HB; obtain ⟨HB, BK261, GW261, GE261⟩ := n_; clear hb hbox hg; obtain ⟨z14_0, z14_1, y14_0, y14_1⟩ := zB2 BK261) | go_quiet (fail))
  go_ret
  exact ⟨by first | rfl | (simp [errW_none, errW_some] <;> rfl) | (simp [*, errW_none, errW_some] <;> rfl), by repeat (first | (with_reducible first | exact HB.out | apply below_alloc | apply pw_below_drewN | apply below_drew1 | refine below_set ?_ GE261.out) | exact HB.out)⟩
 rw [if_pos c3] at H
 have c3b0 : decide (0 ≤ a1_0) = true := decide_eq_true c3
 clear c3
 by_cases c4 : 0 < (l0.length : Int)
 rotate_left
 ·rw [if_neg c4] at H
  exact absurd H (by simp)
 rw [if_pos c4] at H
 have c4b0 : decide (0 < (l0.length : Int)) = true := decide_eq_true c4
 have c4b1 : decide (0 < l0.length) = true := decide_eq_true (by omega)
 clear c4
 by_cases c5 : a1_0 < ((rd_T37 l0 0).f0)
 rotate_left
 ·rw [if_neg c5] at H
  have c5b0 : decide (a1_0 < ((rd_T37 l0 0).f0)) = false := decide_eq_false c5
  clear c5
  obtain rfl := Option.some.inj H
  go_enter Try.func109, Try.ntmps109
  go_wp2_with (first | ((with_reducible refine gate_dst (N := 3) rfl ?_); refine box_event ?hg (N := 3) ?hd (cs := #[.int .i8 a1_0, .int .i8 a1_1]) (t := 74) ?hr ?_; (case hd => rfl); (case hg => rfl); (case hr => first | (go_simp; done) | (go_simp; rfl)); intro gb261 hg w11 hbox hb; have n_ : _ ∧ _ ∧ _ ∧ _ := ⟨zb HB hb, Aside0.mk (hbox), zg HB hg, zg HB hg⟩; clear HB; obtain ⟨HB, BK261, GW261, GE261⟩ := n_; clear hb hbox hg; obtain ⟨z12_0, z12_1, y12_0, y12_1⟩ := zB2 BK261; have p262 : 0 ≤ (0 : Int) := (by omega); have q262 : 0 < (l0.length : Int) := of_decide_eq_true (by first | (with_reducible assumption) | assumption); obtain ⟨ad262, A262_2, c262_2, e262, hx262_0, hx262_1, hx262_2, hl262_2, hi262_2⟩ := at_T37 HR0.out 0 p262 q262; obtain rfl : adp0 = ad262 := (by injection e262); have qi262 : (0 < l0.length) = True := eq_true (by omega); (try rw [show ((0 : Int)).toNat = 0 from rfl] at hx262_0); (try rw [show 0 * 3 = 0 from rfl] at hx262_0); (try rw [Addr.add_zero'] at hx262_0); (try rw [show ((0 : Int)).toNat = 0 from rfl] at hx262_1); (try rw [show 0 * 3 = 0 from rfl] at hx262_1); (try rw [Addr.add_zero'] at hx262_1); (try rw [show ((0 : Int)).toNat = 0 from rfl] at hx262_2); (try rw [show 0 * 3 = 0 from rfl] at hx262_2); (try rw [Addr.add_zero'] at hx262_2); replace hx262_0 := zc HB hx262_0; replace hx262_1 := zc HB hx262_1; replace hx262_2 := zc HB hx262_2; have HR262_2 := Aside0.mk hi262_2; have HC262_2 := Aside0.mk hl262_2; clear hi262_2 hl262_2; replace p262 := eq_true p262; replace q262 := eq_true q262) | go_quiet (fail))
  go_ret
  exact ⟨by first | rfl | (simp [errW_none, errW_some] <;> rfl) | (simp [*, errW_none, errW_some] <;> rfl), by repeat (first | (with_reducible first | exact HB.out | apply below_alloc | apply pw_below_drewN | apply below_drew1 | refine below_set ?_ GE261.out) | exact HB.out)⟩
 rw [if_pos c5] at H
 have c5b0 : decide (a1_0 < ((rd_T37 l0 0).f0)) = true := decide_eq_true c5
 clear c5
 by_cases c6 : a1_1 ≥ 0
 rotate_left
 ·rw [if_neg c6] at H
  have c6b0 : decide (0 ≤ a1_1) = false := decide_eq_false c6
  clear c6
  obtain rfl := Option.some.inj H
  go_enter Try.func109, Try.ntmps109
  go_wp2_with (first | ((with_reducible refine gate_dst (N := 3) rfl ?_); refine box_event ?hg (N := 3) ?hd (cs := #[.int .i8 a1_0, .int .i8 a1_1]) (t := 74) ?hr ?_; (case hd => rfl); (case hg => rfl); (case hr => first | (go_simp; done) | (go_simp; rfl)); intro gb261 hg w9 hbox hb; have n_ : _ ∧ _ ∧ _ ∧ _ := ⟨zb HB hb, Aside0.mk (hbox), zg HB hg, zg HB hg⟩; clear HB; obtain ⟨HB, BK261, GW261, GE261⟩ := n_; clear hb hbox hg; obtain ⟨z10_0, z10_1, y10_0, y10_1⟩ := zB2 BK261; have p262 : 0 ≤ (0 : Int) := (by omega); have q262 : 0 < (l0.length : Int) := of_decide_eq_true (by first | (with_reducible assumption) | assumption); obtain ⟨ad262, A262_2, c262_2, e262, hx262_0, hx262_1, hx262_2, hl262_2, hi262_2⟩ := at_T37 HR0.out 0 p262 q262; obtain rfl : adp0 = ad262 := (by injection e262); have qi262 : (0 < l0.length) = True := eq_true (by omega); (try rw [show ((0 : Int)).toNat = 0 from rfl] at hx262_0); (try rw [show 0 * 3 = 0 from rfl] at hx262_0); (try rw [Addr.add_zero'] at hx262_0); (try rw [show ((0 : Int)).toNat = 0 from rfl] at hx262_1); (try rw [show 0 * 3 = 0 from rfl] at hx262_1); (try rw [Addr.add_zero'] at hx262_1); (try rw [show ((0 : Int)).toNat = 0 from rfl] at hx262_2); (try rw [show 0 * 3 = 0 from rfl] at hx262_2); (try rw [Addr.add_zero'] at hx262_2); replace hx262_0 := zc HB hx262_0; replace hx262_1 := zc HB hx262_1; replace hx262_2 := zc HB hx262_2; have HR262_2 := Aside0.mk hi262_2; have HC262_2 := Aside0.mk hl262_2; clear hi262_2 hl262_2; replace p262 := eq_true p262; replace q262 := eq_true q262) | go_quiet (fail))
  go_ret
  exact ⟨by first | rfl | (simp [errW_none, errW_some] <;> rfl) | (simp [*, errW_none, errW_some] <;> rfl), by repeat (first | (with_reducible first | exact HB.out | apply below_alloc | apply pw_below_drewN | apply below_drew1 | refine below_set ?_ GE261.out) | exact HB.out)⟩
 rw [if_pos c6] at H
 have c6b0 : decide (0 ≤ a1_1) = true := decide_eq_true c6
 clear c6
 obtain rfl := Option.some.inj H
 go_enter Try.func109, Try.ntmps109
 go_wp2_with (first | ((with_reducible refine gate_dst (N := 3) rfl ?_); refine box_event ?hg (N := 3) ?hd (cs := #[.int .i8 a1_0, .int .i8 a1_1]) (t := 74) ?hr ?_; (case hd => rfl); (case hg => rfl); (case hr => first | (go_simp; done) | (go_simp; rfl)); intro gb261 hg w7 hbox hb; have n_ : _ ∧ _ ∧ _ ∧ _ := ⟨zb HB hb, Aside0.mk (hbox), zg HB hg, zg HB hg⟩; clear HB; obtain ⟨HB, BK261, GW261, GE261⟩ := n_; clear hb hbox hg; obtain ⟨z8_0, z8_1, y8_0, y8_1⟩ := zB2 BK261; have p262 : 0 ≤ (0 : Int) := (by omega); have q262 : 0 < (l0.length : Int) := of_decide_eq_true (by first | (with_reducible assumption) | assumption); obtain ⟨ad262, A262_2, c262_2, e262, hx262_0, hx262_1, hx262_2, hl262_2, hi262_2⟩ := at_T37 HR0.out 0 p262 q262; obtain rfl : adp0 = ad262 := (by injection e262); have qi262 : (0 < l0.length) = True := eq_true (by omega); (try rw [show ((0 : Int)).toNat = 0 from rfl] at hx262_0); (try rw [show 0 * 3 = 0 from rfl] at hx262_0); (try rw [Addr.add_zero'] at hx262_0); (try rw [show ((0 : Int)).toNat = 0 from rfl] at hx262_1); (try rw [show 0 * 3 = 0 from rfl] at hx262_1); (try rw [Addr.add_zero'] at hx262_1); (try rw [show ((0 : Int)).toNat = 0 from rfl] at hx262_2); (try rw [show 0 * 3 = 0 from rfl] at hx262_2); (try rw [Addr.add_zero'] at hx262_2); replace hx262_0 := zc HB hx262_0; replace hx262_1 := zc HB hx262_1; replace hx262_2 := zc HB hx262_2; have HR262_2 := Aside0.mk hi262_2; have HC262_2 := Aside0.mk hl262_2; clear hi262_2 hl262_2; replace p262 := eq_true p262; replace q262 := eq_true q262; have p263 : 0 ≤ (0 : Int) := (by omega); have q263 : 0 < (l0.length : Int) := of_decide_eq_true (by first | (with_reducible assumption) | assumption); obtain ⟨ad263, A263_2, c263_2, e263, hx263_0, hx263_1, hx263_2, hl263_2, hi263_2⟩ := at_T37 HR0.out 0 p263 q263; obtain rfl : adp0 = ad263 := (by injection e263); have qi263 : (0 < l0.length) = True := eq_true (by omega); (try rw [show ((0 : Int)).toNat = 0 from rfl] at hx263_0); (try rw [show 0 * 3 = 0 from rfl] at hx263_0); (try rw [Addr.add_zero'] at hx263_0); (try rw [show ((0 : Int)).toNat = 0 from rfl] at hx263_1); (try rw [show 0 * 3 = 0 from rfl] at hx263_1); (try rw [Addr.add_zero'] at hx263_1); (try rw [show ((0 : Int)).toNat = 0 from rfl] at hx263_2); (try rw [show 0 * 3 = 0 from rfl] at hx263_2); (try rw [Addr.add_zero'] at hx263_2); replace hx263_0 := zc HB hx263_0; replace hx263_1 := zc HB hx263_1; replace hx263_2 := zc HB hx263_2; have HR263_2 := Aside0.mk hi263_2; have HC263_2 := Aside0.mk hl263_2; clear hi263_2 hl263_2; replace p263 := eq_true p263; replace q263 := eq_true q263; have ea_ := Option.some.inj (hx262_2.symm.trans hx263_2); injection ea_ with ea_ en_ ec_; subst ea_; subst ec_; clear en_) | go_quiet (fail))
 go_ret
 exact ⟨by first | rfl | (simp [errW_none, errW_some] <;> rfl) | (simp [*, errW_none, errW_some] <;> rfl), by repeat (first | (with_reducible first | exact HB.out | apply below_alloc | apply pw_below_drewN | apply below_drew1 | refine below_set ?_ GE261.out) | exact HB.out)⟩
/-! ### impl_ValidBoard: function 43 -/
theorem cellKey : CellKey Try.prog 74 22 := ⟨Try.underlying74, Try.underlying22, by kernel_rfl⟩
theorem zeroBool (w : World) : (zeroValue 4).run Try.prog w = .ok (.bool false) w := by kernel_rfl
mutual
def impl_ValidBoard.j0 : Nat → Bool → Int → Int → List (S91) → Option (Bool)
  | 0, _, _, _, _ => none
  | k + 1, x23, x171000, x171001, x171002 => if x23 = true then (some false) else (impl_ValidBoard.l0 k x171002 (x171002.length : Int) 0 x171000 x171001 x171002 [])
def impl_ValidBoard.l0 : Nat → List (S91) → Int → Int → Int → Int → List (S91) → List ((Int × Int) × Unit) → Option (Bool)
  | 0, _, _, _, _, _, _, _ => none
  | k + 1, x26, x27, x28, x171000, x171001, x171002, x900 => if x28 < x27 then (if 0 ≤ x28 then (if x28 < (x26.length : Int) then ((impl_ValidPiece.f ((rd_T91 x26 x28).f0.f0) ((rd_T91 x26 x28).f0.f1) ((rd_T91 x26 x28).f1) ((rd_T91 x26 x28).f2) ((rd_T91 x26 x28).f3)).bind fun t175 => (if t175 = true then ((impl_Board_has.f [(⟨x171000, x171001, x171002⟩ : S37)] ((rd_T91 x26 x28).f0.f0) ((rd_T91 x26 x28).f0.f1)).bind fun t176 => (if t176 = true then (if (mfind x900 ((rd_T91 x26 x28).f0.f0) ((rd_T91 x26 x28).f0.f1)).isSome = true then (some false) else (impl_ValidBoard.l0 k x26 x27 (wrap64 (x28 + 1)) x171000 x171001 x171002 (x900 ++ [((((rd_T91 x26 x28).f0.f0), ((rd_T91 x26 x28).f0.f1)), ())]))) else (some false))) else (some false))) else (none)) else (none)) else (some true)
end
def impl_ValidBoard.f (k : Nat) (a0_0 : Int) (a0_1 : Int) (l0_2 : List (S91)) : Option (Bool) := (impl_in.f (wrap64 (a0_0)) 1 24).bind fun t171 => (if t171 = true then ((impl_in.f (wrap64 (a0_1)) 1 24).bind fun t172 => (if t172 = true then (impl_ValidBoard.j0 k (decide ((l0_2.length : Int) > 200)) a0_0 a0_1 l0_2) else (impl_ValidBoard.j0 k true a0_0 a0_1 l0_2))) else (impl_ValidBoard.j0 k true a0_0 a0_1 l0_2))
theorem impl_ValidBoard.mono_l : ∀ k, (∀ y0 y1 y2 y3, LeO (impl_ValidBoard.j0 k y0 y1 y2 y3) (impl_ValidBoard.j0 (k + 1) y0 y1 y2 y3)) ∧ (∀ y0 y1 y2 y3 y4 y5 y6, LeO (impl_ValidBoard.l0 k y0 y1 y2 y3 y4 y5 y6) (impl_ValidBoard.l0 (k + 1) y0 y1 y2 y3 y4 y5 y6))
  | 0 => ⟨fun _ _ _ _ r h => by simp [impl_ValidBoard.j0] at h, fun _ _ _ _ _ _ _ r h => by simp [impl_ValidBoard.l0] at h⟩
  | k + 1 => by
    obtain ⟨ih0, ih1⟩ := impl_ValidBoard.mono_l k
    refine ⟨?_, ?_⟩
    · intro y0 y1 y2 y3
      unfold impl_ValidBoard.j0
      repeat' first | (with_reducible first | apply ih0 | apply ih1 | exact LeO.refl _ | exact LeO.none _ | refine LeO.ite ?_ ?_ | refine LeO.bind ?_ (fun _ => ?_)) | apply ih0 | apply ih1 | exact LeO.none _ | refine LeO.ite ?_ ?_ | refine LeO.bind ?_ (fun _ => ?_)
    · intro y0 y1 y2 y3 y4 y5 y6
      unfold impl_ValidBoard.l0
      repeat' first | (with_reducible first | apply ih0 | apply ih1 | exact LeO.refl _ | exact LeO.none _ | refine LeO.ite ?_ ?_ | refine LeO.bind ?_ (fun _ => ?_)) | apply ih0 | apply ih1 | exact LeO.none _ | refine LeO.ite ?_ ?_ | refine LeO.bind ?_ (fun _ => ?_)
theorem impl_ValidBoard.mono : ∀ a0 a1 a2 k, LeO (impl_ValidBoard.f k a0 a1 a2) (impl_ValidBoard.f (k + 1) a0 a1 a2) := by
 intro a0 a1 a2 k
 obtain ⟨ih0, ih1⟩ := impl_ValidBoard.mono_l k
 unfold impl_ValidBoard.f
 repeat' first | (with_reducible first | apply ih0 | apply ih1 | exact LeO.refl _ | exact LeO.none _ | refine LeO.ite ?_ ?_ | refine LeO.bind ?_ (fun _ => ?_)) | apply ih0 | apply ih1 | exact LeO.none _ | refine LeO.ite ?_ ?_ | refine LeO.bind ?_ (fun _ => ?_)
set_option maxHeartbeats 8000000 in
set_option maxRecDepth 100000 in
theorem impl_ValidBoard.calls (k : Nat) (a0_0 : Int) (a0_1 : Int) (A0_2 : Option Addr) (c0_2 : Nat) (l0_2 : List (S91)) (r : Bool) (w : World) (hr0_2 : Kd.C k91 w A0_2 l0_2.length l0_2) (hc0_2 : l0_2.length ≤ c0_2) (h : impl_ValidBoard.f k a0_0 a0_1 l0_2 = some r) :
    Calls Try.prog 43 #[.agg #[.int .i8 a0_0, .int .i8 a0_1, .slice A0_2 l0_2.length c0_2]] w fun e w' => e = .returned (.bool r) ∧ Below w.heap.size w w' := by
 have hu37 := Try.underlying37
 have hu91 := Try.underlying91
 have hu74 := Try.underlying74
 have HR0_2 := Aside0.mk hr0_2
 have HC0_2 := Aside0.mk hc0_2
 clear hr0_2 hc0_2
 have HB := Aside0.mk (Below.refl w.heap.size w)
 have H : ((impl_in.f (wrap64 (a0_0)) 1 24).bind fun t171 => (if t171 = true then ((impl_in.f (wrap64 (a0_1)) 1 24).bind fun t172 => (if t172 = true then (impl_ValidBoard.j0 k (decide ((l0_2.length : Int) > 200)) a0_0 a0_1 l0_2) else (impl_ValidBoard.j0 k true a0_0 a0_1 l0_2))) else (impl_ValidBoard.j0 k true a0_0 a0_1 l0_2))) = some r := h
 clear h
 have HC2 := Aside0.mk H
 clear H
 go_enter Try.func43, Try.ntmps43
 go_upto_region 1 with (first | ((with_reducible refine gate_dst (N := 1) rfl ?_); (try (refine gate_guard (by rfl) ?_; dsimp only)); refine box_event ?hg (N := 1) ?hd (cs := #[.int .i8 a0_0, .int .i8 a0_1, .slice A0_2 l0_2.length c0_2]) (t := 37) ?hr ?_; (case hd => rfl); (case hg => rfl); (case hr => first | (go_simp; done) | (go_simp; rfl)); intro gb170 hg w3 hbox hb; have n_ : _ ∧ _ ∧ _ ∧ _ := ⟨zb HB hb, Aside0.mk (hbox), zg HB hg, zg HB hg⟩; clear HB; obtain ⟨HB, BK170, GW170, GE170⟩ := n_; clear hb hbox hg))
 (try simp only [Act.put, List.setIfInBounds_toArray, List.set_cons_zero, List.set_cons_succ])
 go_cut [23] (fun v23 wc => ∃ (kq : Nat) (x23_1 : Bool), v23 = .bool x23_1 ∧ Aside0 (impl_ValidBoard.j0 kq x23_1 a0_0 a0_1 l0_2 = some r) ∧ Aside0 (kq ≤ k) ∧ Aside0 (wc.heap[gb170]? = some (.cells #[.int .i8 a0_0, .int .i8 a0_1, (.slice A0_2 l0_2.length c0_2)] 37 (0, 0))) ∧ Aside0 (Below w.heap.size w wc))
 case first =>
  have H := HC2.out
  clear HC2
  replace H := Option.bind_eq_some_iff.mp H
  obtain ⟨t171, A40, H⟩ := H
  replace H : (if t171 = true then ((impl_in.f (wrap64 (a0_1)) 1 24).bind fun t172 => (if t172 = true then (impl_ValidBoard.j0 k (decide ((l0_2.length : Int) > 200)) a0_0 a0_1 l0_2) else (impl_ValidBoard.j0 k true a0_0 a0_1 l0_2))) else (impl_ValidBoard.j0 k true a0_0 a0_1 l0_2)) = some r := H
  have A4 := Aside0.mk A40
  clear A40
  by_cases c5 : t171 = true
  rotate_left
  ·replace c5 := Bool.eq_false_iff.mpr c5
   subst c5
   have H1 : (impl_ValidBoard.j0 k true a0_0 a0_1 l0_2) = some r := by rw [if_neg (show ¬ (false = true) by decide)] at H; exact H
   clear H
   have H := H1
   clear H1
   have H' := Aside0.mk H
   clear H
   obtain ⟨z10_0, z10_1, z10_2, y10_0, y10_1, y10_2⟩ := zB3 BK170
   go_wp2_with (first | ((with_reducible refine gate_callee (f := 98) rfl ?_); refine goesL_ (some 9) rfl rfl Try.func98 (by kernel_rfl) rfl #[.int .i64 (wrap64 (a0_0)), .int .i64 1, .int .i64 24] rfl (by (try simp only [List.map_toArray, List.map_cons, List.map_nil]); first | done | rfl | (simp only [List.length_drop, List.length_take]; rfl)) ?_; (with_reducible refine (impl_in.calls (wrap64 (a0_0)) 1 24 false _ A4.out).mono ?_); rintro e w' ⟨rfl, ⟨nd, rfl⟩⟩; refine ⟨_, rfl, ?_⟩))
   go_meet
   case rel => exact ⟨_, (true), (by first | rfl | (simp; done) | (simp [*]; done) | (exact congrArg (Value.int .i64) (wrap_eq (by omega)))), H', ⟨by first | omega | exact Nat.le_refl _⟩, zh BK170, zba⟩
  subst c5
  have H1 : ((impl_in.f (wrap64 (a0_1)) 1 24).bind fun t172 => (if t172 = true then (impl_ValidBoard.j0 k (decide ((l0_2.length : Int) > 200)) a0_0 a0_1 l0_2) else (impl_ValidBoard.j0 k true a0_0 a0_1 l0_2))) = some r := by rw [if_pos rfl] at H; exact H
  clear H
  have H := H1
  clear H1
  replace H := Option.bind_eq_some_iff.mp H
  obtain ⟨t172, A60, H⟩ := H
  replace H : (if t172 = true then (impl_ValidBoard.j0 k (decide ((l0_2.length : Int) > 200)) a0_0 a0_1 l0_2) else (impl_ValidBoard.j0 k true a0_0 a0_1 l0_2)) = some r := H
  have A6 := Aside0.mk A60
  clear A60
  by_cases c7 : t172 = true
  ·subst c7
   have H1 : (impl_ValidBoard.j0 k (decide ((l0_2.length : Int) > 200)) a0_0 a0_1 l0_2) = some r := by rw [if_pos rfl] at H; exact H
   clear H
   have H := H1
   clear H1
   have H' := Aside0.mk H
   clear H
   obtain ⟨z8_0, z8_1, z8_2, y8_0, y8_1, y8_2⟩ := zB3 BK170
   go_wp2_with (first | ((with_reducible refine gate_callee (f := 98) rfl ?_); refine goesL_ (some 9) rfl rfl Try.func98 (by kernel_rfl) rfl #[.int .i64 (wrap64 (a0_0)), .int .i64 1, .int .i64 24] rfl (by (try simp only [List.map_toArray, List.map_cons, List.map_nil]); first | done | rfl | (simp only [List.length_drop, List.length_take]; rfl)) ?_; (with_reducible refine (impl_in.calls (wrap64 (a0_0)) 1 24 true _ A4.out).mono ?_); rintro e w' ⟨rfl, ⟨nd, rfl⟩⟩; refine ⟨_, rfl, ?_⟩) | (go_at_call 98; (with_reducible refine (impl_in.calls (wrap64 (a0_1)) 1 24 true _ A6.out).mono ?_); rintro e w' ⟨rfl, ⟨nd, rfl⟩⟩))
   go_meet
   case rel => exact ⟨_, (decide ((l0_2.length : Int) > 200)), (by first | rfl | (simp; done) | (simp [*]; done) | (exact congrArg (Value.int .i64) (wrap_eq (by omega)))), H', ⟨by first | omega | exact Nat.le_refl _⟩, zh BK170, zba⟩
  replace c7 := Bool.eq_false_iff.mpr c7
  subst c7
  have H1 : (impl_ValidBoard.j0 k true a0_0 a0_1 l0_2) = some r := by rw [if_neg (show ¬ (false = true) by decide)] at H; exact H
  clear H
  have H := H1
  clear H1
  have H' := Aside0.mk H
  clear H
  obtain ⟨z9_0, z9_1, z9_2, y9_0, y9_1, y9_2⟩ := zB3 BK170
  go_wp2_with (first | ((with_reducible refine gate_callee (f := 98) rfl ?_); refine goesL_ (some 9) rfl rfl Try.func98 (by kernel_rfl) rfl #[.int .i64 (wrap64 (a0_0)), .int .i64 1, .int .i64 24] rfl (by (try simp only [List.map_toArray, List.map_cons, List.map_nil]); first | done | rfl | (simp only [List.length_drop, List.length_take]; rfl)) ?_; (with_reducible refine (impl_in.calls (wrap64 (a0_0)) 1 24 true _ A4.out).mono ?_); rintro e w' ⟨rfl, ⟨nd, rfl⟩⟩; refine ⟨_, rfl, ?_⟩) | (go_at_call 98; (with_reducible refine (impl_in.calls (wrap64 (a0_1)) 1 24 false _ A6.out).mono ?_); rintro e w' ⟨rfl, ⟨nd, rfl⟩⟩))
  go_meet
  case rel => exact ⟨_, (true), (by first | rfl | (simp; done) | (simp [*]; done) | (exact congrArg (Value.int .i64) (wrap_eq (by omega)))), H', ⟨by first | omega | exact Nat.le_refl _⟩, zh BK170, zba⟩
 clear HC2
 try clear p2
 try clear c4
 try clear c5
 try clear p6
 try clear c7
 try clear c9
 try clear z10_0 z10_1 z10_2
 try clear z8_0 z8_1 z8_2
 try clear z9_0 z9_1 z9_2
 try clear y10_0
 try clear y10_1
 try clear y10_2
 try clear y8_0
 try clear y8_1
 try clear y8_2
 try clear y9_0
 try clear y9_1
 try clear y9_2
 obtain ⟨kq, x23_1, rfl, HA, HJ1, BK170, HB⟩ := hcut
 cases kq with
 | zero => exact absurd HA.out (by simp [impl_ValidBoard.j0])
 | succ kj1 => ?_
 have H := HA.out
 clear HA
 simp only [impl_ValidBoard.j0] at H
 by_cases c11 : x23_1 = true
 ·subst c11
  have H1 : (some false) = some r := by rw [if_pos rfl] at H; exact H
  clear H
  have H := H1
  clear H1
  obtain rfl := Option.some.inj H
  go_wp2
  go_ret
  exact ⟨by first | rfl | (simp [errW_none, errW_some] <;> rfl) | (simp [*, errW_none, errW_some] <;> rfl), by repeat (first | (with_reducible first | exact HB.out | apply below_alloc | apply pw_below_drewN | apply below_drew1 | refine below_set ?_ GE170.out) | exact HB.out)⟩
 replace c11 := Bool.eq_false_iff.mpr c11
 subst c11
 have H1 : (impl_ValidBoard.l0 kj1 l0_2 (l0_2.length : Int) 0 a0_0 a0_1 l0_2 []) = some r := by rw [if_neg (show ¬ (false = true) by decide)] at H; exact H
 clear H
 have H := H1
 clear H1
 have H' := Aside0.mk H
 clear H
 obtain ⟨z12_0, z12_1, z12_2, y12_0, y12_1, y12_2⟩ := zB3 BK170
 go_wp2_with (first | ((with_reducible refine gate_dst (N := 24) rfl ?_); (try (refine gate_guard (by rfl) ?_; dsimp only)); refine map_event rfl 138 rfl ?_; intro gm hg w40 hmap hb; have n_ : _ ∧ _ ∧ _ ∧ _ := ⟨zk BK170 hb, zbs hb, Aside0.mk hmap, Aside0.mk ((by rw [hg]; exact (zz HB)) : w.heap.size ≤ gm)⟩; clear BK170 HB; obtain ⟨BK170, HB, MM, GEM⟩ := n_; clear hb hmap hg; obtain ⟨z40_0, z40_1, z40_2, y40_0, y40_1, y40_2⟩ := zB3 BK170))
 go_loopg [28] kj1 (fun kq v28 w' => ∃ (x28_2 : Int) (x900 : List ((Int × Int) × Unit)) (es : Array MapEntry) (ck : Nat), v28 = .int .i64 x28_2 ∧ Aside0 (impl_ValidBoard.l0 kq l0_2 (l0_2.length : Int) x28_2 a0_0 a0_1 l0_2 x900 = some r) ∧ Aside0 (kq ≤ kj1) ∧ Aside0 (w'.heap[gb170]? = some (.cells #[.int .i8 a0_0, .int .i8 a0_1, (.slice A0_2 l0_2.length c0_2)] 37 (0, 0))) ∧ Aside0 (w'.heap[gm]? = some (.map es ck)) ∧ Aside0 (ER (fun _ : Unit => Value.bool true) es x900) ∧ Aside0 (Below w.heap.size w w'))
 case atStart => exact ⟨(0), [], #[], 0, (by first | rfl | (simp; done) | (simp [*]; done) | (exact congrArg (Value.int .i64) (wrap_eq (by omega)))), H', ⟨Nat.le_refl _⟩, zh BK170, zh MM, ⟨rfl⟩, zba⟩
 clear H'
 try clear c1
 try clear p2
 try clear c4
 try clear c5
 try clear p6
 try clear c7
 try clear c9
 try clear c11
 try clear z10_0 z10_1 z10_2
 try clear z12_0 z12_1 z12_2
 try clear z8_0 z8_1 z8_2
 try clear z9_0 z9_1 z9_2
 try clear y10_0
 try clear y10_1
 try clear y10_2
 try clear y12_0
 try clear y12_1
 try clear y12_2
 try clear y8_0
 try clear y8_1
 try clear y8_2
 try clear y9_0
 try clear y9_1
 try clear y9_2
 try clear p2
 try clear p6
 obtain ⟨x28_2, x900, es, ck, rfl, HA, HK2, BK170, MM, MER, HB⟩ := hrel
 have GMB : Aside0 (gb170 ≠ gm) := ⟨by rintro rfl; have h1 := BK170.out; rw [MM.out] at h1; cases h1⟩
 try clear z40_0 z40_1 z40_2 y40_0 y40_1 y40_2
 cases gk with
 | zero => exact absurd HA.out (by simp [impl_ValidBoard.l0])
 | succ k2 => ?_
 have H := HA.out
 clear HA
 simp only [impl_ValidBoard.l0] at H
 by_cases c13 : x28_2 < (l0_2.length : Int)
 rotate_left
 ·rw [if_neg c13] at H
  have c13b0 : decide (x28_2 < (l0_2.length : Int)) = false := decide_eq_false c13
  clear c13
  obtain rfl := Option.some.inj H
  go_wp2
  go_ret
  exact ⟨by first | rfl | (simp [errW_none, errW_some] <;> rfl) | (simp [*, errW_none, errW_some] <;> rfl), by repeat (first | (with_reducible first | exact HB.out | apply below_alloc | apply pw_below_drewN | apply below_drew1 | refine below_set ?_ GE170.out) | exact HB.out)⟩
 rw [if_pos c13] at H
 have c13b0 : decide (x28_2 < (l0_2.length : Int)) = true := decide_eq_true c13
 clear c13
 by_cases c14 : 0 ≤ x28_2
 rotate_left
 ·rw [if_neg c14] at H
  exact absurd H (by simp)
 rw [if_pos c14] at H
 have c14b0 : decide (0 ≤ x28_2) = true := decide_eq_true c14
 clear c14
 by_cases c15 : x28_2 < (l0_2.length : Int)
 rotate_left
 ·rw [if_neg c15] at H
  exact absurd H (by simp)
 rw [if_pos c15] at H
 have c15b0 : decide (x28_2 < (l0_2.length : Int)) = true := decide_eq_true c15
 clear c15
 replace H := Option.bind_eq_some_iff.mp H
 obtain ⟨t175, A160, H⟩ := H
 replace H : (if t175 = true then ((impl_Board_has.f [(⟨a0_0, a0_1, l0_2⟩ : S37)] ((rd_T91 l0_2 x28_2).f0.f0) ((rd_T91 l0_2 x28_2).f0.f1)).bind fun t176 => (if t176 = true then (if (mfind x900 ((rd_T91 l0_2 x28_2).f0.f0) ((rd_T91 l0_2 x28_2).f0.f1)).isSome = true then (some false) else (impl_ValidBoard.l0 k2 l0_2 (l0_2.length : Int) (wrap64 (x28_2 + 1)) a0_0 a0_1 l0_2 (x900 ++ [((((rd_T91 l0_2 x28_2).f0.f0), ((rd_T91 l0_2 x28_2).f0.f1)), ())]))) else (some false))) else (some false)) = some r := H
 have A16 := Aside0.mk A160
 clear A160
 by_cases c17 : t175 = true
 rotate_left
 ·replace c17 := Bool.eq_false_iff.mpr c17
  subst c17
  have H1 : (some false) = some r := by rw [if_neg (show ¬ (false = true) by decide)] at H; exact H
  clear H
  have H := H1
  clear H1
  obtain rfl := Option.some.inj H
  have p173 : 0 ≤ (x28_2 : Int) := of_decide_eq_true (by first | (with_reducible assumption) | assumption)
  have q173 : x28_2 < (l0_2.length : Int) := of_decide_eq_true (by first | (with_reducible assumption) | assumption)
  obtain ⟨ad173, e173, hx173_0, hx173_1, hx173_2, hx173_3, hx173_4⟩ := at_T91 HR0_2.out x28_2 p173 q173
  cases e173
  replace hx173_0 := zc HB hx173_0
  replace hx173_1 := zc HB hx173_1
  replace hx173_2 := zc HB hx173_2
  replace hx173_3 := zc HB hx173_3
  replace hx173_4 := zc HB hx173_4
  replace p173 := eq_true p173
  replace q173 := eq_true q173
  go_wp2_with (first | ((with_reducible refine gate_dst (N := 5) rfl ?_); (try (refine gate_guard (by rfl) ?_; dsimp only)); refine box_event ?hg (N := 5) ?hd (cs := #[.int .i8 0, .int .i8 0, .int .i8 0, .int .i8 0, .int .i8 0]) (t := 91) ?hr ?_; (case hd => rfl); (case hg => rfl); (case hr => first | (go_simp; done) | (go_simp; rfl)); intro gb174 hg w33 hbox hb; have NM174 := Aside0.mk ((by rw [hg]; exact Nat.ne_of_lt (blk_lt (g := gm) (o := .map es ck) (zh MM).out)) : gm ≠ gb174); have m0_ := zk MM hb; clear MM; have MM := m0_; clear m0_; have n_ : _ ∧ _ ∧ _ ∧ _ ∧ _ ∧ _ ∧ _ := ⟨zk BK170 hb, zbs hb, Aside0.mk (hbox), zg HB hg, zg HB hg, zn1 BK170 hg, zn2 BK170 hg⟩; clear BK170 HB; obtain ⟨BK170, HB, BK174, GW174, GE174, NB170_174, NB174_170⟩ := n_; clear hb hbox hg; have hnb34 := NB174_170.out; have hnc34 := NB170_174.out; obtain ⟨z35_0, z35_1, z35_2, z35_3, z35_4, y35_0, y35_1, y35_2, y35_3, y35_4⟩ := zB5 BK174) | ((with_reducible refine gate_callee (f := 108) rfl ?_); refine goesL_ (some 33) rfl rfl Try.func108 (by kernel_rfl) rfl #[.agg #[.int .i8 ((rd_T91 l0_2 x28_2).f0.f0), .int .i8 ((rd_T91 l0_2 x28_2).f0.f1), .int .i8 ((rd_T91 l0_2 x28_2).f1), .int .i8 ((rd_T91 l0_2 x28_2).f2), .int .i8 ((rd_T91 l0_2 x28_2).f3)]] rfl (by (try simp only [List.map_toArray, List.map_cons, List.map_nil]); first | done | rfl | (simp only [List.length_drop, List.length_take]; rfl)) ?_; (with_reducible refine (impl_ValidPiece.calls ((rd_T91 l0_2 x28_2).f0.f0) ((rd_T91 l0_2 x28_2).f0.f1) ((rd_T91 l0_2 x28_2).f1) ((rd_T91 l0_2 x28_2).f2) ((rd_T91 l0_2 x28_2).f3) false _ A16.out).mono ?_); rintro e w36 ⟨rfl, hb⟩; refine ⟨_, rfl, ?_⟩; have m0_ := Aside0.mk (blk_below (g := gm) (o := .map es ck) (by (repeat (first | (with_reducible refine blk_drewN ?_ _) | (with_reducible refine blk_drew ?_) | (with_reducible refine blk_alloc ?_ _) | (refine mblk_far ?_ NM174.out _))); exact MM.out) hb); clear MM; have MM := m0_; clear m0_; have n_ : _ ∧ _ ∧ _ := ⟨zfb BK170 NB170_174 hb, Aside0.mk (blk_below (g := gb174) (o := .cells #[.int .i8 ((rd_T91 l0_2 x28_2).f0.f0), .int .i8 ((rd_T91 l0_2 x28_2).f0.f1), .int .i8 ((rd_T91 l0_2 x28_2).f1), .int .i8 ((rd_T91 l0_2 x28_2).f2), .int .i8 ((rd_T91 l0_2 x28_2).f3)] 91 (0, 0)) (by (with_reducible repeat (first | refine blk_drewN ?_ _ | refine blk_drew ?_ | refine blk_alloc ?_ _)); refine blk_put (cs := #[.int .i8 ((rd_T91 l0_2 x28_2).f0.f0), .int .i8 ((rd_T91 l0_2 x28_2).f0.f1), .int .i8 ((rd_T91 l0_2 x28_2).f1), .int .i8 ((rd_T91 l0_2 x28_2).f2), .int .i8 0]) ?_ 4 _ rfl; (with_reducible repeat (first | refine blk_drewN ?_ _ | refine blk_drew ?_ | refine blk_alloc ?_ _)); refine blk_put (cs := #[.int .i8 ((rd_T91 l0_2 x28_2).f0.f0), .int .i8 ((rd_T91 l0_2 x28_2).f0.f1), .int .i8 ((rd_T91 l0_2 x28_2).f1), .int .i8 0, .int .i8 0]) ?_ 3 _ rfl; (with_reducible repeat (first | refine blk_drewN ?_ _ | refine blk_drew ?_ | refine blk_alloc ?_ _)); refine blk_put (cs := #[.int .i8 ((rd_T91 l0_2 x28_2).f0.f0), .int .i8 ((rd_T91 l0_2 x28_2).f0.f1), .int .i8 0, .int .i8 0, .int .i8 0]) ?_ 2 _ rfl; (with_reducible repeat (first | refine blk_drewN ?_ _ | refine blk_drew ?_ | refine blk_alloc ?_ _)); refine blk_put (cs := #[.int .i8 ((rd_T91 l0_2 x28_2).f0.f0), .int .i8 0, .int .i8 0, .int .i8 0, .int .i8 0]) ?_ 1 _ rfl; (with_reducible repeat (first | refine blk_drewN ?_ _ | refine blk_drew ?_ | refine blk_alloc ?_ _)); refine blk_put (cs := #[.int .i8 0, .int .i8 0, .int .i8 0, .int .i8 0, .int .i8 0]) ?_ 0 _ rfl; (with_reducible repeat (first | refine blk_drewN ?_ _ | refine blk_drew ?_ | refine blk_alloc ?_ _)); exact BK174.out) hb), zbs hb⟩; clear BK170 BK174 HB; obtain ⟨BK170, BK174, HB⟩ := n_; (try clear hb); (try clear hb2); (try clear hk); (try clear hi)))
  go_ret
  exact ⟨by first | rfl | (simp [errW_none, errW_some] <;> rfl) | (simp [*, errW_none, errW_some] <;> rfl), by repeat (first | (with_reducible first | exact HB.out | apply below_alloc | apply pw_below_drewN | apply below_drew1 | refine below_set ?_ GE170.out | refine below_set ?_ GE174.out) | exact HB.out)⟩
 subst c17
 have H1 : ((impl_Board_has.f [(⟨a0_0, a0_1, l0_2⟩ : S37)] ((rd_T91 l0_2 x28_2).f0.f0) ((rd_T91 l0_2 x28_2).f0.f1)).bind fun t176 => (if t176 = true then (if (mfind x900 ((rd_T91 l0_2 x28_2).f0.f0) ((rd_T91 l0_2 x28_2).f0.f1)).isSome = true then (some false) else (impl_ValidBoard.l0 k2 l0_2 (l0_2.length : Int) (wrap64 (x28_2 + 1)) a0_0 a0_1 l0_2 (x900 ++ [((((rd_T91 l0_2 x28_2).f0.f0), ((rd_T91 l0_2 x28_2).f0.f1)), ())]))) else (some false))) = some r := by rw [if_pos rfl] at H; exact H
 clear H
 have H := H1
 clear H1
 replace H := Option.bind_eq_some_iff.mp H
 obtain ⟨t176, A180, H⟩ := H
 replace H : (if t176 = true then (if (mfind x900 ((rd_T91 l0_2 x28_2).f0.f0) ((rd_T91 l0_2 x28_2).f0.f1)).isSome = true then (some false) else (impl_ValidBoard.l0 k2 l0_2 (l0_2.length : Int) (wrap64 (x28_2 + 1)) a0_0 a0_1 l0_2 (x900 ++ [((((rd_T91 l0_2 x28_2).f0.f0), ((rd_T91 l0_2 x28_2).f0.f1)), ())]))) else (some false)) = some r := H
 have A18 := Aside0.mk A180
 clear A180
 by_cases c19 : t176 = true
 rotate_left
 ·replace c19 := Bool.eq_false_iff.mpr c19
  subst c19
  have H1 : (some false) = some r := by rw [if_neg (show ¬ (false = true) by decide)] at H; exact H
  clear H
  have H := H1
  clear H1
  obtain rfl := Option.some.inj H
  have p173 : 0 ≤ (x28_2 : Int) := of_decide_eq_true (by first | (with_reducible assumption) | assumption)
  have q173 : x28_2 < (l0_2.length : Int) := of_decide_eq_true (by first | (with_reducible assumption) | assumption)
  obtain ⟨ad173, e173, hx173_0, hx173_1, hx173_2, hx173_3, hx173_4⟩ := at_T91 HR0_2.out x28_2 p173 q173
  cases e173
  replace hx173_0 := zc HB hx173_0
  replace hx173_1 := zc HB hx173_1
  replace hx173_2 := zc HB hx173_2
  replace hx173_3 := zc HB hx173_3
  replace hx173_4 := zc HB hx173_4
  replace p173 := eq_true p173
  replace q173 := eq_true q173
  go_wp2_with (first | ((with_reducible refine gate_dst (N := 5) rfl ?_); (try (refine gate_guard (by rfl) ?_; dsimp only)); refine box_event ?hg (N := 5) ?hd (cs := #[.int .i8 0, .int .i8 0, .int .i8 0, .int .i8 0, .int .i8 0]) (t := 91) ?hr ?_; (case hd => rfl); (case hg => rfl); (case hr => first | (go_simp; done) | (go_simp; rfl)); intro gb174 hg w27 hbox hb; have NM174 := Aside0.mk ((by rw [hg]; exact Nat.ne_of_lt (blk_lt (g := gm) (o := .map es ck) (zh MM).out)) : gm ≠ gb174); have m0_ := zk MM hb; clear MM; have MM := m0_; clear m0_; have n_ : _ ∧ _ ∧ _ ∧ _ ∧ _ ∧ _ ∧ _ := ⟨zk BK170 hb, zbs hb, Aside0.mk (hbox), zg HB hg, zg HB hg, zn1 BK170 hg, zn2 BK170 hg⟩; clear BK170 HB; obtain ⟨BK170, HB, BK174, GW174, GE174, NB170_174, NB174_170⟩ := n_; clear hb hbox hg; have hnb28 := NB174_170.out; have hnc28 := NB170_174.out; obtain ⟨z29_0, z29_1, z29_2, z29_3, z29_4, y29_0, y29_1, y29_2, y29_3, y29_4⟩ := zB5 BK174) | ((with_reducible refine gate_callee (f := 108) rfl ?_); refine goesL_ (some 33) rfl rfl Try.func108 (by kernel_rfl) rfl #[.agg #[.int .i8 ((rd_T91 l0_2 x28_2).f0.f0), .int .i8 ((rd_T91 l0_2 x28_2).f0.f1), .int .i8 ((rd_T91 l0_2 x28_2).f1), .int .i8 ((rd_T91 l0_2 x28_2).f2), .int .i8 ((rd_T91 l0_2 x28_2).f3)]] rfl (by (try simp only [List.map_toArray, List.map_cons, List.map_nil]); first | done | rfl | (simp only [List.length_drop, List.length_take]; rfl)) ?_; (with_reducible refine (impl_ValidPiece.calls ((rd_T91 l0_2 x28_2).f0.f0) ((rd_T91 l0_2 x28_2).f0.f1) ((rd_T91 l0_2 x28_2).f1) ((rd_T91 l0_2 x28_2).f2) ((rd_T91 l0_2 x28_2).f3) true _ A16.out).mono ?_); rintro e w30 ⟨rfl, hb⟩; refine ⟨_, rfl, ?_⟩; have m0_ := Aside0.mk (blk_below (g := gm) (o := .map es ck) (by (repeat (first | (with_reducible refine blk_drewN ?_ _) | (with_reducible refine blk_drew ?_) | (with_reducible refine blk_alloc ?_ _) | (refine mblk_far ?_ NM174.out _))); exact MM.out) hb); clear MM; have MM := m0_; clear m0_; have n_ : _ ∧ _ ∧ _ := ⟨zfb BK170 NB170_174 hb, Aside0.mk (blk_below (g := gb174) (o := .cells #[.int .i8 ((rd_T91 l0_2 x28_2).f0.f0), .int .i8 ((rd_T91 l0_2 x28_2).f0.f1), .int .i8 ((rd_T91 l0_2 x28_2).f1), .int .i8 ((rd_T91 l0_2 x28_2).f2), .int .i8 ((rd_T91 l0_2 x28_2).f3)] 91 (0, 0)) (by (with_reducible repeat (first | refine blk_drewN ?_ _ | refine blk_drew ?_ | refine blk_alloc ?_ _)); refine blk_put (cs := #[.int .i8 ((rd_T91 l0_2 x28_2).f0.f0), .int .i8 ((rd_T91 l0_2 x28_2).f0.f1), .int .i8 ((rd_T91 l0_2 x28_2).f1), .int .i8 ((rd_T91 l0_2 x28_2).f2), .int .i8 0]) ?_ 4 _ rfl; (with_reducible repeat (first | refine blk_drewN ?_ _ | refine blk_drew ?_ | refine blk_alloc ?_ _)); refine blk_put (cs := #[.int .i8 ((rd_T91 l0_2 x28_2).f0.f0), .int .i8 ((rd_T91 l0_2 x28_2).f0.f1), .int .i8 ((rd_T91 l0_2 x28_2).f1), .int .i8 0, .int .i8 0]) ?_ 3 _ rfl; (with_reducible repeat (first | refine blk_drewN ?_ _ | refine blk_drew ?_ | refine blk_alloc ?_ _)); refine blk_put (cs := #[.int .i8 ((rd_T91 l0_2 x28_2).f0.f0), .int .i8 ((rd_T91 l0_2 x28_2).f0.f1), .int .i8 0, .int .i8 0, .int .i8 0]) ?_ 2 _ rfl; (with_reducible repeat (first | refine blk_drewN ?_ _ | refine blk_drew ?_ | refine blk_alloc ?_ _)); refine blk_put (cs := #[.int .i8 ((rd_T91 l0_2 x28_2).f0.f0), .int .i8 0, .int .i8 0, .int .i8 0, .int .i8 0]) ?_ 1 _ rfl; (with_reducible repeat (first | refine blk_drewN ?_ _ | refine blk_drew ?_ | refine blk_alloc ?_ _)); refine blk_put (cs := #[.int .i8 0, .int .i8 0, .int .i8 0, .int .i8 0, .int .i8 0]) ?_ 0 _ rfl; (with_reducible repeat (first | refine blk_drewN ?_ _ | refine blk_drew ?_ | refine blk_alloc ?_ _)); exact BK174.out) hb), zbs hb⟩; clear BK170 BK174 HB; obtain ⟨BK170, BK174, HB⟩ := n_; (try clear hb); (try clear hb2); (try clear hk); (try clear hi); obtain ⟨z31_0, z31_1, z31_2, z31_3, z31_4, y31_0, y31_1, y31_2, y31_3, y31_4⟩ := zB5 BK174) | (go_at_call 109; (with_reducible refine (impl_Board_has.calls _ [(⟨a0_0, a0_1, l0_2⟩ : S37)] ((rd_T91 l0_2 x28_2).f0.f0) ((rd_T91 l0_2 x28_2).f0.f1) false _ ?side1 A18.out).mono ?_); (case side1 => refine ro_of_blk (T := 37) (cs := #[.int .i8 a0_0, .int .i8 a0_1, .slice (some ad173) l0_2.length c0_2]) (zh BK170).out ?_; exact k37_mk _ (⟨a0_0, a0_1, l0_2⟩ : S37) (by exact HC0_2.out) (by exact zcc HB HR0_2.out)); rintro e w32 ⟨rfl, hb⟩; have m0_ := zk MM hb; clear MM; have MM := m0_; clear m0_; have n_ : _ ∧ _ ∧ _ := ⟨zk BK170 hb, zk BK174 hb, zbs hb⟩; clear BK170 BK174 HB; obtain ⟨BK170, BK174, HB⟩ := n_; (try clear hb); (try clear hb2); (try clear hk); (try clear hi)))
  go_ret
  exact ⟨by first | rfl | (simp [errW_none, errW_some] <;> rfl) | (simp [*, errW_none, errW_some] <;> rfl), by repeat (first | (with_reducible first | exact HB.out | apply below_alloc | apply pw_below_drewN | apply below_drew1 | refine below_set ?_ GE170.out | refine below_set ?_ GE174.out) | exact HB.out)⟩
 subst c19
 have H1 : (if (mfind x900 ((rd_T91 l0_2 x28_2).f0.f0) ((rd_T91 l0_2 x28_2).f0.f1)).isSome = true then (some false) else (impl_ValidBoard.l0 k2 l0_2 (l0_2.length : Int) (wrap64 (x28_2 + 1)) a0_0 a0_1 l0_2 (x900 ++ [((((rd_T91 l0_2 x28_2).f0.f0), ((rd_T91 l0_2 x28_2).f0.f1)), ())]))) = some r := by rw [if_pos rfl] at H; exact H
 clear H
 have H := H1
 clear H1
 by_cases c21 : (mfind x900 ((rd_T91 l0_2 x28_2).f0.f0) ((rd_T91 l0_2 x28_2).f0.f1)).isSome = true
 ·rw [if_pos c21] at H
  obtain rfl := Option.some.inj H
  have p173 : 0 ≤ (x28_2 : Int) := of_decide_eq_true (by first | (with_reducible assumption) | assumption)
  have q173 : x28_2 < (l0_2.length : Int) := of_decide_eq_true (by first | (with_reducible assumption) | assumption)
  obtain ⟨ad173, e173, hx173_0, hx173_1, hx173_2, hx173_3, hx173_4⟩ := at_T91 HR0_2.out x28_2 p173 q173
  cases e173
  replace hx173_0 := zc HB hx173_0
  replace hx173_1 := zc HB hx173_1
  replace hx173_2 := zc HB hx173_2
  replace hx173_3 := zc HB hx173_3
  replace hx173_4 := zc HB hx173_4
  replace p173 := eq_true p173
  replace q173 := eq_true q173
  have ml : ∀ W : World, W.heap[gm]? = some (.map es ck) → (Instr.lookup 138 (.map (some gm)) (.agg #[.int .i8 ((rd_T91 l0_2 x28_2).f0.f0), .int .i8 ((rd_T91 l0_2 x28_2).f0.f1)]) false).run Try.prog W = .ok (.bool true) W := by
   intro W hW
   refine (run_mlook (V := 4) cellKey Try.underlying138 (zeroBool W) hW MER.out _ _ false).trans ?_
   simp only [Bool.false_eq_true, if_false]; obtain ⟨v_, hv_⟩ := Option.isSome_iff_exists.mp c21; rw [hv_]; rfl
  go_wp2_with (first | ((with_reducible refine gate_dst (N := 5) rfl ?_); (try (refine gate_guard (by rfl) ?_; dsimp only)); refine box_event ?hg (N := 5) ?hd (cs := #[.int .i8 0, .int .i8 0, .int .i8 0, .int .i8 0, .int .i8 0]) (t := 91) ?hr ?_; (case hd => rfl); (case hg => rfl); (case hr => first | (go_simp; done) | (go_simp; rfl)); intro gb174 hg w20 hbox hb; have NM174 := Aside0.mk ((by rw [hg]; exact Nat.ne_of_lt (blk_lt (g := gm) (o := .map es ck) (zh MM).out)) : gm ≠ gb174); have m0_ := zk MM hb; clear MM; have MM := m0_; clear m0_; have n_ : _ ∧ _ ∧ _ ∧ _ ∧ _ ∧ _ ∧ _ := ⟨zk BK170 hb, zbs hb, Aside0.mk (hbox), zg HB hg, zg HB hg, zn1 BK170 hg, zn2 BK170 hg⟩; clear BK170 HB; obtain ⟨BK170, HB, BK174, GW174, GE174, NB170_174, NB174_170⟩ := n_; clear hb hbox hg; have hnb21 := NB174_170.out; have hnc21 := NB170_174.out; obtain ⟨z22_0, z22_1, z22_2, z22_3, z22_4, y22_0, y22_1, y22_2, y22_3, y22_4⟩ := zB5 BK174) | ((with_reducible refine gate_callee (f := 108) rfl ?_); refine goesL_ (some 33) rfl rfl Try.func108 (by kernel_rfl) rfl #[.agg #[.int .i8 ((rd_T91 l0_2 x28_2).f0.f0), .int .i8 ((rd_T91 l0_2 x28_2).f0.f1), .int .i8 ((rd_T91 l0_2 x28_2).f1), .int .i8 ((rd_T91 l0_2 x28_2).f2), .int .i8 ((rd_T91 l0_2 x28_2).f3)]] rfl (by (try simp only [List.map_toArray, List.map_cons, List.map_nil]); first | done | rfl | (simp only [List.length_drop, List.length_take]; rfl)) ?_; (with_reducible refine (impl_ValidPiece.calls ((rd_T91 l0_2 x28_2).f0.f0) ((rd_T91 l0_2 x28_2).f0.f1) ((rd_T91 l0_2 x28_2).f1) ((rd_T91 l0_2 x28_2).f2) ((rd_T91 l0_2 x28_2).f3) true _ A16.out).mono ?_); rintro e w23 ⟨rfl, hb⟩; refine ⟨_, rfl, ?_⟩; have m0_ := Aside0.mk (blk_below (g := gm) (o := .map es ck) (by (repeat (first | (with_reducible refine blk_drewN ?_ _) | (with_reducible refine blk_drew ?_) | (with_reducible refine blk_alloc ?_ _) | (refine mblk_far ?_ NM174.out _))); exact MM.out) hb); clear MM; have MM := m0_; clear m0_; have n_ : _ ∧ _ ∧ _ := ⟨zfb BK170 NB170_174 hb, Aside0.mk (blk_below (g := gb174) (o := .cells #[.int .i8 ((rd_T91 l0_2 x28_2).f0.f0), .int .i8 ((rd_T91 l0_2 x28_2).f0.f1), .int .i8 ((rd_T91 l0_2 x28_2).f1), .int .i8 ((rd_T91 l0_2 x28_2).f2), .int .i8 ((rd_T91 l0_2 x28_2).f3)] 91 (0, 0)) (by (with_reducible repeat (first | refine blk_drewN ?_ _ | refine blk_drew ?_ | refine blk_alloc ?_ _)); refine blk_put (cs := #[.int .i8 ((rd_T91 l0_2 x28_2).f0.f0), .int .i8 ((rd_T91 l0_2 x28_2).f0.f1), .int .i8 ((rd_T91 l0_2 x28_2).f1), .int .i8 ((rd_T91 l0_2 x28_2).f2), .int .i8 0]) ?_ 4 _ rfl; (with_reducible repeat (first | refine blk_drewN ?_ _ | refine blk_drew ?_ | refine blk_alloc ?_ _)); refine blk_put (cs := #[.int .i8 ((rd_T91 l0_2 x28_2).f0.f0), .int .i8 ((rd_T91 l0_2 x28_2).f0.f1), .int .i8 ((rd_T91 l0_2 x28_2).f1), .int .i8 0, .int .i8 0]) ?_ 3 _ rfl; (with_reducible repeat (first | refine blk_drewN ?_ _ | refine blk_drew ?_ | refine blk_alloc ?_ _)); refine blk_put (cs := #[.int .i8 ((rd_T91 l0_2 x28_2).f0.f0), .int .i8 ((rd_T91 l0_2 x28_2).f0.f1), .int .i8 0, .int .i8 0, .int .i8 0]) ?_ 2 _ rfl; (with_reducible repeat (first | refine blk_drewN ?_ _ | refine blk_drew ?_ | refine blk_alloc ?_ _)); refine blk_put (cs := #[.int .i8 ((rd_T91 l0_2 x28_2).f0.f0), .int .i8 0, .int .i8 0, .int .i8 0, .int .i8 0]) ?_ 1 _ rfl; (with_reducible repeat (first | refine blk_drewN ?_ _ | refine blk_drew ?_ | refine blk_alloc ?_ _)); refine blk_put (cs := #[.int .i8 0, .int .i8 0, .int .i8 0, .int .i8 0, .int .i8 0]) ?_ 0 _ rfl; (with_reducible repeat (first | refine blk_drewN ?_ _ | refine blk_drew ?_ | refine blk_alloc ?_ _)); exact BK174.out) hb), zbs hb⟩; clear BK170 BK174 HB; obtain ⟨BK170, BK174, HB⟩ := n_; (try clear hb); (try clear hb2); (try clear hk); (try clear hi); obtain ⟨z24_0, z24_1, z24_2, z24_3, z24_4, y24_0, y24_1, y24_2, y24_3, y24_4⟩ := zB5 BK174) | (go_at_call 109; (with_reducible refine (impl_Board_has.calls _ [(⟨a0_0, a0_1, l0_2⟩ : S37)] ((rd_T91 l0_2 x28_2).f0.f0) ((rd_T91 l0_2 x28_2).f0.f1) true _ ?side1 A18.out).mono ?_); (case side1 => refine ro_of_blk (T := 37) (cs := #[.int .i8 a0_0, .int .i8 a0_1, .slice (some ad173) l0_2.length c0_2]) (zh BK170).out ?_; exact k37_mk _ (⟨a0_0, a0_1, l0_2⟩ : S37) (by exact HC0_2.out) (by exact zcc HB HR0_2.out)); rintro e w25 ⟨rfl, hb⟩; have m0_ := zk MM hb; clear MM; have MM := m0_; clear m0_; have n_ : _ ∧ _ ∧ _ := ⟨zk BK170 hb, zk BK174 hb, zbs hb⟩; clear BK170 BK174 HB; obtain ⟨BK170, BK174, HB⟩ := n_; (try clear hb); (try clear hb2); (try clear hk); (try clear hi); obtain ⟨z26_0, z26_1, z26_2, z26_3, z26_4, y26_0, y26_1, y26_2, y26_3, y26_4⟩ := zB5 BK174) | ((with_reducible refine gate_dst (N := 45) rfl ?_); (try (refine gate_guard (by rfl) ?_; dsimp only)); refine look_event rfl rfl rfl rfl (ml _ (zh MM).out) ?_))
  go_ret
  exact ⟨by first | rfl | (simp [errW_none, errW_some] <;> rfl) | (simp [*, errW_none, errW_some] <;> rfl), by repeat (first | (with_reducible first | exact HB.out | apply below_alloc | apply pw_below_drewN | apply below_drew1 | refine below_set ?_ GE170.out | refine below_set ?_ GE174.out) | exact HB.out)⟩
 rw [if_neg c21] at H
 have H' := Aside0.mk H
 clear H
 have p173 : 0 ≤ (x28_2 : Int) := of_decide_eq_true (by first | (with_reducible assumption) | assumption)
 have q173 : x28_2 < (l0_2.length : Int) := of_decide_eq_true (by first | (with_reducible assumption) | assumption)
 obtain ⟨ad173, e173, hx173_0, hx173_1, hx173_2, hx173_3, hx173_4⟩ := at_T91 HR0_2.out x28_2 p173 q173
 cases e173
 replace hx173_0 := zc HB hx173_0
 replace hx173_1 := zc HB hx173_1
 replace hx173_2 := zc HB hx173_2
 replace hx173_3 := zc HB hx173_3
 replace hx173_4 := zc HB hx173_4
 replace p173 := eq_true p173
 replace q173 := eq_true q173
 have ml : ∀ W : World, W.heap[gm]? = some (.map es ck) → (Instr.lookup 138 (.map (some gm)) (.agg #[.int .i8 ((rd_T91 l0_2 x28_2).f0.f0), .int .i8 ((rd_T91 l0_2 x28_2).f0.f1)]) false).run Try.prog W = .ok (.bool false) W := by
  intro W hW
  refine (run_mlook (V := 4) cellKey Try.underlying138 (zeroBool W) hW MER.out _ _ false).trans ?_
  simp only [Bool.false_eq_true, if_false]; rw [show mfind x900 ((rd_T91 l0_2 x28_2).f0.f0) ((rd_T91 l0_2 x28_2).f0.f1) = none by simpa using c21]; rfl
 have mp : ∀ W : World, W.heap[gm]? = some (.map es ck) → (Instr.mapUpdate 138 (.map (some gm)) (.agg #[.int .i8 ((rd_T91 l0_2 x28_2).f0.f0), .int .i8 ((rd_T91 l0_2 x28_2).f0.f1)]) (.bool true)).run Try.prog W = .ok () (ChangeMaps.setBlock W gm (.map (es.push ⟨ckey ((rd_T91 l0_2 x28_2).f0.f0) ((rd_T91 l0_2 x28_2).f0.f1), .bool true, ck⟩) (ck + 1))) := fun W hW => run_mput (V := 4) (vv := fun _ : Unit => Value.bool true) cellKey Try.underlying138 hW MER.out _ _ (by simpa using c21) ()
 go_wp2_with (first | ((with_reducible refine gate_dst (N := 5) rfl ?_); (try (refine gate_guard (by rfl) ?_; dsimp only)); refine box_event ?hg (N := 5) ?hd (cs := #[.int .i8 0, .int .i8 0, .int .i8 0, .int .i8 0, .int .i8 0]) (t := 91) ?hr ?_; (case hd => rfl); (case hg => rfl); (case hr => first | (go_simp; done) | (go_simp; rfl)); intro gb174 hg w20 hbox hb; have NM174 := Aside0.mk ((by rw [hg]; exact Nat.ne_of_lt (blk_lt (g := gm) (o := .map es ck) (zh MM).out)) : gm ≠ gb174); have m0_ := zk MM hb; clear MM; have MM := m0_; clear m0_; have n_ : _ ∧ _ ∧ _ ∧ _ ∧ _ ∧ _ ∧ _ := ⟨zk BK170 hb, zbs hb, Aside0.mk (hbox), zg HB hg, zg HB hg, zn1 BK170 hg, zn2 BK170 hg⟩; clear BK170 HB; obtain ⟨BK170, HB, BK174, GW174, GE174, NB170_174, NB174_170⟩ := n_; clear hb hbox hg; have hnb21 := NB174_170.out; have hnc21 := NB170_174.out; obtain ⟨z22_0, z22_1, z22_2, z22_3, z22_4, y22_0, y22_1, y22_2, y22_3, y22_4⟩ := zB5 BK174) | ((with_reducible refine gate_callee (f := 108) rfl ?_); refine goesL_ (some 33) rfl rfl Try.func108 (by kernel_rfl) rfl #[.agg #[.int .i8 ((rd_T91 l0_2 x28_2).f0.f0), .int .i8 ((rd_T91 l0_2 x28_2).f0.f1), .int .i8 ((rd_T91 l0_2 x28_2).f1), .int .i8 ((rd_T91 l0_2 x28_2).f2), .int .i8 ((rd_T91 l0_2 x28_2).f3)]] rfl (by (try simp only [List.map_toArray, List.map_cons, List.map_nil]); first | done | rfl | (simp only [List.length_drop, List.length_take]; rfl)) ?_; (with_reducible refine (impl_ValidPiece.calls ((rd_T91 l0_2 x28_2).f0.f0) ((rd_T91 l0_2 x28_2).f0.f1) ((rd_T91 l0_2 x28_2).f1) ((rd_T91 l0_2 x28_2).f2) ((rd_T91 l0_2 x28_2).f3) true _ A16.out).mono ?_); rintro e w23 ⟨rfl, hb⟩; refine ⟨_, rfl, ?_⟩; have m0_ := Aside0.mk (blk_below (g := gm) (o := .map es ck) (by (repeat (first | (with_reducible refine blk_drewN ?_ _) | (with_reducible refine blk_drew ?_) | (with_reducible refine blk_alloc ?_ _) | (refine mblk_far ?_ NM174.out _))); exact MM.out) hb); clear MM; have MM := m0_; clear m0_; have n_ : _ ∧ _ ∧ _ := ⟨zfb BK170 NB170_174 hb, Aside0.mk (blk_below (g := gb174) (o := .cells #[.int .i8 ((rd_T91 l0_2 x28_2).f0.f0), .int .i8 ((rd_T91 l0_2 x28_2).f0.f1), .int .i8 ((rd_T91 l0_2 x28_2).f1), .int .i8 ((rd_T91 l0_2 x28_2).f2), .int .i8 ((rd_T91 l0_2 x28_2).f3)] 91 (0, 0)) (by (with_reducible repeat (first | refine blk_drewN ?_ _ | refine blk_drew ?_ | refine blk_alloc ?_ _)); refine blk_put (cs := #[.int .i8 ((rd_T91 l0_2 x28_2).f0.f0), .int .i8 ((rd_T91 l0_2 x28_2).f0.f1), .int .i8 ((rd_T91 l0_2 x28_2).f1), .int .i8 ((rd_T91 l0_2 x28_2).f2), .int .i8 0]) ?_ 4 _ rfl; (with_reducible repeat (first | refine blk_drewN ?_ _ | refine blk_drew ?_ | refine blk_alloc ?_ _)); refine blk_put (cs := #[.int .i8 ((rd_T91 l0_2 x28_2).f0.f0), .int .i8 ((rd_T91 l0_2 x28_2).f0.f1), .int .i8 ((rd_T91 l0_2 x28_2).f1), .int .i8 0, .int .i8 0]) ?_ 3 _ rfl; (with_reducible repeat (first | refine blk_drewN ?_ _ | refine blk_drew ?_ | refine blk_alloc ?_ _)); refine blk_put (cs := #[.int .i8 ((rd_T91 l0_2 x28_2).f0.f0), .int .i8 ((rd_T91 l0_2 x28_2).f0.f1), .int .i8 0, .int .i8 0, .int .i8 0]) ?_ 2 _ rfl; (with_reducible repeat (first | refine blk_drewN ?_ _ | refine blk_drew ?_ | refine blk_alloc ?_ _)); refine blk_put (cs := #[.int .i8 ((rd_T91 l0_2 x28_2).f0.f0), .int .i8 0, .int .i8 0, .int .i8 0, .int .i8 0]) ?_ 1 _ rfl; (with_reducible repeat (first | refine blk_drewN ?_ _ | refine blk_drew ?_ | refine blk_alloc ?_ _)); refine blk_put (cs := #[.int .i8 0, .int .i8 0, .int .i8 0, .int .i8 0, .int .i8 0]) ?_ 0 _ rfl; (with_reducible repeat (first | refine blk_drewN ?_ _ | refine blk_drew ?_ | refine blk_alloc ?_ _)); exact BK174.out) hb), zbs hb⟩; clear BK170 BK174 HB; obtain ⟨BK170, BK174, HB⟩ := n_; (try clear hb); (try clear hb2); (try clear hk); (try clear hi); obtain ⟨z24_0, z24_1, z24_2, z24_3, z24_4, y24_0, y24_1, y24_2, y24_3, y24_4⟩ := zB5 BK174) | (go_at_call 109; (with_reducible refine (impl_Board_has.calls _ [(⟨a0_0, a0_1, l0_2⟩ : S37)] ((rd_T91 l0_2 x28_2).f0.f0) ((rd_T91 l0_2 x28_2).f0.f1) true _ ?side1 A18.out).mono ?_); (case side1 => refine ro_of_blk (T := 37) (cs := #[.int .i8 a0_0, .int .i8 a0_1, .slice (some ad173) l0_2.length c0_2]) (zh BK170).out ?_; exact k37_mk _ (⟨a0_0, a0_1, l0_2⟩ : S37) (by exact HC0_2.out) (by exact zcc HB HR0_2.out)); rintro e w25 ⟨rfl, hb⟩; have m0_ := zk MM hb; clear MM; have MM := m0_; clear m0_; have n_ : _ ∧ _ ∧ _ := ⟨zk BK170 hb, zk BK174 hb, zbs hb⟩; clear BK170 BK174 HB; obtain ⟨BK170, BK174, HB⟩ := n_; (try clear hb); (try clear hb2); (try clear hk); (try clear hi); obtain ⟨z26_0, z26_1, z26_2, z26_3, z26_4, y26_0, y26_1, y26_2, y26_3, y26_4⟩ := zB5 BK174) | ((with_reducible refine gate_dst (N := 45) rfl ?_); (try (refine gate_guard (by rfl) ?_; dsimp only)); refine look_event rfl rfl rfl rfl (ml _ (zh MM).out) ?_) | (at_mapUpdate; refine put_event rfl rfl rfl rfl rfl (mp _ (zh MM).out) (zh MM).out ?_; intro w60 hm1 hm2 hm3; have n0_ := Aside0.mk ((hm2 gb170 GMB.out).trans (zh BK170).out); have n1_ := Aside0.mk (hm3 w (by repeat (first | (with_reducible first | exact HB.out | apply below_alloc | apply pw_below_drewN | apply below_drew1 | refine below_set ?_ GE170.out | refine below_set ?_ GE174.out) | exact HB.out)) GEM.out); clear BK170; clear BK174; clear HB; clear MM; have BK170 := n0_; have HB := n1_; have MM := Aside0.mk hm1; clear n0_ n1_ hm1 hm2 hm3))
 go_roundg k2
 case measure => have := HJ1.out; have := HK2.out; omega
 case rel => exact ⟨(wrap64 (x28_2 + 1)), (x900 ++ [((((rd_T91 l0_2 x28_2).f0.f0), ((rd_T91 l0_2 x28_2).f0.f1)), ())]), _, _, (by first | rfl | (simp; done) | (simp [*]; done) | (exact congrArg (Value.int .i64) (wrap_eq (by omega)))), H', ⟨by have := HJ1.out; have := HK2.out; omega⟩, zh BK170, zh MM, ⟨ER_push MER.out _ _ _ _⟩, zba⟩
-- NOT PRINTED: function 170 (impl_Piece)

/-! ### impl_Board_at_1: function 171 -/
def impl_Board_at_1.f (a0_0 : Int) (a0_1 : Int) (a0_2 : Int) (a0_3 : Int) (a0_4 : Int) (l1 : List (S74)) : Option (Bool) := if 0 < (l1.length : Int) then (some (a0_0 == ((rd_T74 l1 0).f0) && (a0_1 == ((rd_T74 l1 0).f1)))) else (none)
set_option maxHeartbeats 8000000 in
set_option maxRecDepth 100000 in
theorem impl_Board_at_1.calls (a0_0 : Int) (a0_1 : Int) (a0_2 : Int) (a0_3 : Int) (a0_4 : Int) (adp1 : Addr) (l1 : List (S74)) (r : Bool) (w : World) (hr1 : Kd.C k74 w (some adp1) l1.length l1) (h : impl_Board_at_1.f a0_0 a0_1 a0_2 a0_3 a0_4 l1 = some r) :
    Calls Try.prog 171 #[.agg #[.int .i8 a0_0, .int .i8 a0_1, .int .i8 a0_2, .int .i8 a0_3, .int .i8 a0_4], .pointer (some adp1)] w fun e w' => e = .returned (.bool r) ∧ Below w.heap.size w w' := by
 have hu91 := Try.underlying91
 have hu74 := Try.underlying74
 have HR1 := Aside0.mk hr1
 clear hr1
 have HB := Aside0.mk (Below.refl w.heap.size w)
 have H : (if 0 < (l1.length : Int) then (some (a0_0 == ((rd_T74 l1 0).f0) && (a0_1 == ((rd_T74 l1 0).f1)))) else (none)) = some r := h
 clear h
 by_cases c3 : 0 < (l1.length : Int)
 rotate_left
 ·rw [if_neg c3] at H
  exact absurd H (by simp)
 rw [if_pos c3] at H
 have c3b0 : decide (0 < (l1.length : Int)) = true := decide_eq_true c3
 have c3b1 : decide (0 < l1.length) = true := decide_eq_true (by omega)
 clear c3
 obtain rfl := Option.some.inj H
 go_enter Try.func171, Try.ntmps171
 go_wp2_with (first | ((with_reducible refine gate_dst (N := 2) rfl ?_); refine box_event ?hg (N := 2) ?hd (cs := #[.int .i8 a0_0, .int .i8 a0_1, .int .i8 a0_2, .int .i8 a0_3, .int .i8 a0_4]) (t := 91) ?hr ?_; (case hd => rfl); (case hg => rfl); (case hr => first | (go_simp; done) | (go_simp; rfl)); intro gb264 hg w4 hbox hb; have n_ : _ ∧ _ ∧ _ ∧ _ := ⟨zb HB hb, Aside0.mk (hbox), zg HB hg, zg HB hg⟩; clear HB; obtain ⟨HB, BK264, GW264, GE264⟩ := n_; clear hb hbox hg; obtain ⟨z5_0, z5_1, z5_2, z5_3, z5_4, y5_0, y5_1, y5_2, y5_3, y5_4⟩ := zB5 BK264; have p265 : 0 ≤ (0 : Int) := (by omega); have q265 : 0 < (l1.length : Int) := of_decide_eq_true (by first | (with_reducible assumption) | assumption); obtain ⟨ad265, e265, hx265_0, hx265_1⟩ := at_T74 HR1.out 0 p265 q265; obtain rfl : adp1 = ad265 := (by injection e265); have qi265 : (0 < l1.length) = True := eq_true (by omega); (try rw [show ((0 : Int)).toNat = 0 from rfl] at hx265_0); (try rw [show 0 * 2 = 0 from rfl] at hx265_0); (try rw [Addr.add_zero'] at hx265_0); (try rw [show ((0 : Int)).toNat = 0 from rfl] at hx265_1); (try rw [show 0 * 2 = 0 from rfl] at hx265_1); (try rw [Addr.add_zero'] at hx265_1); replace hx265_0 := zc HB hx265_0; replace hx265_1 := zc HB hx265_1; replace p265 := eq_true p265; replace q265 := eq_true q265))
 go_ret
 exact ⟨by first | rfl | (simp [errW_none, errW_some] <;> rfl) | (simp [*, errW_none, errW_some] <;> rfl), by repeat (first | (with_reducible first | exact HB.out | apply below_alloc | apply pw_below_drewN | apply below_drew1 | refine below_set ?_ GE264.out) | exact HB.out)⟩
/-! ### slices_IndexFunc__impl_Board_at_1: function 233 -/
def slices_IndexFunc__impl_Board_at_1.l0 : Nat → List (S91) → Int → Int → List (S74) → Option (Int)
  | 0, _, _, _, _ => none
  | k + 1, x0, x7, x8, x2000 => if x8 < x7 then (if 0 ≤ x8 then (if x8 < (x0.length : Int) then ((impl_Board_at_1.f ((rd_T91 x0 x8).f0.f0) ((rd_T91 x0 x8).f0.f1) ((rd_T91 x0 x8).f1) ((rd_T91 x0 x8).f2) ((rd_T91 x0 x8).f3) x2000).bind fun t267 => (if t267 = true then (some x8) else (slices_IndexFunc__impl_Board_at_1.l0 k x0 x7 (wrap64 (x8 + 1)) x2000))) else (none)) else (none)) else (some (-1))
def slices_IndexFunc__impl_Board_at_1.f (k : Nat) (l0 : List (S91)) (l1_0 : List (S74)) : Option (Int) := slices_IndexFunc__impl_Board_at_1.l0 k l0 (l0.length : Int) 0 l1_0
theorem slices_IndexFunc__impl_Board_at_1.mono_l : ∀ k, (∀ y0 y1 y2 y3, LeO (slices_IndexFunc__impl_Board_at_1.l0 k y0 y1 y2 y3) (slices_IndexFunc__impl_Board_at_1.l0 (k + 1) y0 y1 y2 y3))
  | 0 => fun _ _ _ _ r h => by simp [slices_IndexFunc__impl_Board_at_1.l0] at h
  | k + 1 => by
    have ih0 := slices_IndexFunc__impl_Board_at_1.mono_l k
    · intro y0 y1 y2 y3
      unfold slices_IndexFunc__impl_Board_at_1.l0
      repeat' first | (with_reducible first | apply ih0 | exact LeO.refl _ | exact LeO.none _ | refine LeO.ite ?_ ?_ | refine LeO.bind ?_ (fun _ => ?_)) | apply ih0 | exact LeO.none _ | refine LeO.ite ?_ ?_ | refine LeO.bind ?_ (fun _ => ?_)
theorem slices_IndexFunc__impl_Board_at_1.mono : ∀ a0 a1 k, LeO (slices_IndexFunc__impl_Board_at_1.f k a0 a1) (slices_IndexFunc__impl_Board_at_1.f (k + 1) a0 a1) := by
 intro a0 a1 k
 have ih0 := slices_IndexFunc__impl_Board_at_1.mono_l k
 unfold slices_IndexFunc__impl_Board_at_1.f
 repeat' first | (with_reducible first | apply ih0 | exact LeO.refl _ | exact LeO.none _ | refine LeO.ite ?_ ?_ | refine LeO.bind ?_ (fun _ => ?_)) | apply ih0 | exact LeO.none _ | refine LeO.ite ?_ ?_ | refine LeO.bind ?_ (fun _ => ?_)
set_option maxHeartbeats 8000000 in
set_option maxRecDepth 100000 in
theorem slices_IndexFunc__impl_Board_at_1.calls (k : Nat) (A0 : Option Addr) (c0 : Nat) (l0 : List (S91)) (adp1_0 : Addr) (l1_0 : List (S74)) (r : Int) (w : World) (hr0 : Kd.C k91 w A0 l0.length l0) (hc0 : l0.length ≤ c0) (hr1_0 : Kd.C k74 w (some adp1_0) l1_0.length l1_0) (h : slices_IndexFunc__impl_Board_at_1.f k l0 l1_0 = some r) :
    Calls Try.prog 170 #[.slice A0 l0.length c0, .func (.func 171) #[] #[.pointer (some adp1_0)]] w fun e w' => e = .returned (.int .i64 r) ∧ Below w.heap.size w w' := by
 have hu91 := Try.underlying91
 have HR0 := Aside0.mk hr0
 have HC0 := Aside0.mk hc0
 clear hr0 hc0
 have HR1_0 := Aside0.mk hr1_0
 clear hr1_0
 have HB := Aside0.mk (Below.refl w.heap.size w)
 have H : (slices_IndexFunc__impl_Board_at_1.l0 k l0 (l0.length : Int) 0 l1_0) = some r := h
 clear h
 have H' := Aside0.mk H
 clear H
 go_enter Try.func170, Try.ntmps170
 go_wp2
 go_loopg [8] k (fun kq v8 w' => ∃ (x8_1 : Int), v8 = .int .i64 x8_1 ∧ Aside0 (slices_IndexFunc__impl_Board_at_1.l0 kq l0 (l0.length : Int) x8_1 l1_0 = some r) ∧ Aside0 (kq ≤ k) ∧ Aside0 (Below w.heap.size w w'))
 case atStart => exact ⟨(0), (by first | rfl | (simp; done) | (simp [*]; done) | (exact congrArg (Value.int .i64) (wrap_eq (by omega)))), H', ⟨Nat.le_refl _⟩, zl HB⟩
 clear H'
 try clear c2
 try clear p2
 obtain ⟨x8_1, rfl, HA, HK1, HB⟩ := hrel
 cases gk with
 | zero => exact absurd HA.out (by simp [slices_IndexFunc__impl_Board_at_1.l0])
 | succ k1 => ?_
 have H := HA.out
 clear HA
 simp only [slices_IndexFunc__impl_Board_at_1.l0] at H
 by_cases c3 : x8_1 < (l0.length : Int)
 rotate_left
 ·rw [if_neg c3] at H
  have c3b0 : decide (x8_1 < (l0.length : Int)) = false := decide_eq_false c3
  clear c3
  obtain rfl := Option.some.inj H
  go_wp2
  go_ret
  exact ⟨by first | rfl | (simp [errW_none, errW_some] <;> rfl) | (simp [*, errW_none, errW_some] <;> rfl), by repeat (first | (with_reducible first | exact HB.out | apply below_alloc | apply pw_below_drewN | apply below_drew1) | exact HB.out)⟩
 rw [if_pos c3] at H
 have c3b0 : decide (x8_1 < (l0.length : Int)) = true := decide_eq_true c3
 clear c3
 by_cases c4 : 0 ≤ x8_1
 rotate_left
 ·rw [if_neg c4] at H
  exact absurd H (by simp)
 rw [if_pos c4] at H
 have c4b0 : decide (0 ≤ x8_1) = true := decide_eq_true c4
 clear c4
 by_cases c5 : x8_1 < (l0.length : Int)
 rotate_left
 ·rw [if_neg c5] at H
  exact absurd H (by simp)
 rw [if_pos c5] at H
 have c5b0 : decide (x8_1 < (l0.length : Int)) = true := decide_eq_true c5
 clear c5
 replace H := Option.bind_eq_some_iff.mp H
 obtain ⟨t267, A60, H⟩ := H
 replace H : (if t267 = true then (some x8_1) else (slices_IndexFunc__impl_Board_at_1.l0 k1 l0 (l0.length : Int) (wrap64 (x8_1 + 1)) l1_0)) = some r := H
 have A6 := Aside0.mk A60
 clear A60
 by_cases c7 : t267 = true
 ·subst c7
  have H1 : (some x8_1) = some r := by rw [if_pos rfl] at H; exact H
  clear H
  have H := H1
  clear H1
  obtain rfl := Option.some.inj H
  have p266 : 0 ≤ (x8_1 : Int) := of_decide_eq_true (by first | (with_reducible assumption) | assumption)
  have q266 : x8_1 < (l0.length : Int) := of_decide_eq_true (by first | (with_reducible assumption) | assumption)
  obtain ⟨ad266, e266, hx266_0, hx266_1, hx266_2, hx266_3, hx266_4⟩ := at_T91 HR0.out x8_1 p266 q266
  cases e266
  replace hx266_0 := zc HB hx266_0
  replace hx266_1 := zc HB hx266_1
  replace hx266_2 := zc HB hx266_2
  replace hx266_3 := zc HB hx266_3
  replace hx266_4 := zc HB hx266_4
  replace p266 := eq_true p266
  replace q266 := eq_true q266
  go_wp2_with (first | (go_at_call 171; (with_reducible refine (impl_Board_at_1.calls ((rd_T91 l0 x8_1).f0.f0) ((rd_T91 l0 x8_1).f0.f1) ((rd_T91 l0 x8_1).f1) ((rd_T91 l0 x8_1).f2) ((rd_T91 l0 x8_1).f3) _ l1_0 true _ ?side1 A6.out).mono ?_); (case side1 => exact zcc HB HR1_0.out); rintro e w8 ⟨rfl, hb⟩; have n0_ := zb HB hb; clear HB; have HB := n0_; clear n0_; (try clear hb); (try clear hb2); (try clear hk); (try clear hi)))
  go_ret
  exact ⟨by first | rfl | (simp [errW_none, errW_some] <;> rfl) | (simp [*, errW_none, errW_some] <;> rfl), by repeat (first | (with_reducible first | exact HB.out | apply below_alloc | apply pw_below_drewN | apply below_drew1) | exact HB.out)⟩
 replace c7 := Bool.eq_false_iff.mpr c7
 subst c7
 have H1 : (slices_IndexFunc__impl_Board_at_1.l0 k1 l0 (l0.length : Int) (wrap64 (x8_1 + 1)) l1_0) = some r := by rw [if_neg (show ¬ (false = true) by decide)] at H; exact H
 clear H
 have H := H1
 clear H1
 have H' := Aside0.mk H
 clear H
 have p266 : 0 ≤ (x8_1 : Int) := of_decide_eq_true (by first | (with_reducible assumption) | assumption)
 have q266 : x8_1 < (l0.length : Int) := of_decide_eq_true (by first | (with_reducible assumption) | assumption)
 obtain ⟨ad266, e266, hx266_0, hx266_1, hx266_2, hx266_3, hx266_4⟩ := at_T91 HR0.out x8_1 p266 q266
 cases e266
 replace hx266_0 := zc HB hx266_0
 replace hx266_1 := zc HB hx266_1
 replace hx266_2 := zc HB hx266_2
 replace hx266_3 := zc HB hx266_3
 replace hx266_4 := zc HB hx266_4
 replace p266 := eq_true p266
 replace q266 := eq_true q266
 go_wp2_with (first | (go_at_call 171; (with_reducible refine (impl_Board_at_1.calls ((rd_T91 l0 x8_1).f0.f0) ((rd_T91 l0 x8_1).f0.f1) ((rd_T91 l0 x8_1).f1) ((rd_T91 l0 x8_1).f2) ((rd_T91 l0 x8_1).f3) _ l1_0 false _ ?side1 A6.out).mono ?_); (case side1 => exact zcc HB HR1_0.out); rintro e w9 ⟨rfl, hb⟩; have n0_ := zb HB hb; clear HB; have HB := n0_; clear n0_; (try clear hb); (try clear hb2); (try clear hk); (try clear hi)))
 go_roundg k1
 case measure => have := HK1.out; omega
 case rel => exact ⟨(wrap64 (x8_1 + 1)), (by first | rfl | (simp; done) | (simp [*]; done) | (exact congrArg (Value.int .i64) (wrap_eq (by omega)))), H', ⟨by have := HK1.out; omega⟩, zl HB⟩
/-! ### impl_Board_at: function 119 -/
def impl_Board_at.f (k : Nat) (l0 : List (S37)) (a1_0 : Int) (a1_1 : Int) : Option (Int) := if 0 < (l0.length : Int) then ((slices_IndexFunc__impl_Board_at_1.f k ((rd_T37 l0 0).f2) [(⟨a1_0, a1_1⟩ : S74)]).bind fun t270 => (some t270)) else (none)
theorem impl_Board_at.mono : ∀ a0 a1 a2 k, LeO (impl_Board_at.f k a0 a1 a2) (impl_Board_at.f (k + 1) a0 a1 a2) := by
 intro a0 a1 a2 k
 unfold impl_Board_at.f
 repeat' first | (with_reducible first | apply slices_IndexFunc__impl_Board_at_1.mono | exact LeO.refl _ | exact LeO.none _ | refine LeO.ite ?_ ?_ | refine LeO.bind ?_ (fun _ => ?_)) | apply slices_IndexFunc__impl_Board_at_1.mono | exact LeO.none _ | refine LeO.ite ?_ ?_ | refine LeO.bind ?_ (fun _ => ?_)
set_option maxHeartbeats 8000000 in
set_option maxRecDepth 100000 in
theorem impl_Board_at.calls (k : Nat) (adp0 : Addr) (l0 : List (S37)) (a1_0 : Int) (a1_1 : Int) (r : Int) (w : World) (hr0 : Kd.C k37 w (some adp0) l0.length l0) (h : impl_Board_at.f k l0 a1_0 a1_1 = some r) :
    Calls Try.prog 119 #[.pointer (some adp0), .agg #[.int .i8 a1_0, .int .i8 a1_1]] w fun e w' => e = .returned (.int .i64 r) ∧ Below w.heap.size w w' := by
 have hu74 := Try.underlying74
 have HR0 := Aside0.mk hr0
 clear hr0
 have HB := Aside0.mk (Below.refl w.heap.size w)
 have H : (if 0 < (l0.length : Int) then ((slices_IndexFunc__impl_Board_at_1.f k ((rd_T37 l0 0).f2) [(⟨a1_0, a1_1⟩ : S74)]).bind fun t270 => (some t270)) else (none)) = some r := h
 clear h
 by_cases c3 : 0 < (l0.length : Int)
 rotate_left
 ·rw [if_neg c3] at H
  exact absurd H (by simp)
 rw [if_pos c3] at H
 have c3b0 : decide (0 < (l0.length : Int)) = true := decide_eq_true c3
 have c3b1 : decide (0 < l0.length) = true := decide_eq_true (by omega)
 clear c3
 replace H := Option.bind_eq_some_iff.mp H
 obtain ⟨t270, A40, H⟩ := H
 replace H : (some t270) = some r := H
 have A4 := Aside0.mk A40
 clear A40
 obtain rfl := Option.some.inj H
 go_enter Try.func119, Try.ntmps119
 go_wp2_with (first | ((with_reducible refine gate_dst (N := 3) rfl ?_); refine box_event ?hg (N := 3) ?hd (cs := #[.int .i8 a1_0, .int .i8 a1_1]) (t := 74) ?hr ?_; (case hd => rfl); (case hg => rfl); (case hr => first | (go_simp; done) | (go_simp; rfl)); intro gb268 hg w5 hbox hb; have n_ : _ ∧ _ ∧ _ ∧ _ := ⟨zb HB hb, Aside0.mk (hbox), zg HB hg, zg HB hg⟩; clear HB; obtain ⟨HB, BK268, GW268, GE268⟩ := n_; clear hb hbox hg; have p269 : 0 ≤ (0 : Int) := (by omega); have q269 : 0 < (l0.length : Int) := of_decide_eq_true (by first | (with_reducible assumption) | assumption); obtain ⟨ad269, A269_2, c269_2, e269, hx269_0, hx269_1, hx269_2, hl269_2, hi269_2⟩ := at_T37 HR0.out 0 p269 q269; obtain rfl : adp0 = ad269 := (by injection e269); have qi269 : (0 < l0.length) = True := eq_true (by omega); (try rw [show ((0 : Int)).toNat = 0 from rfl] at hx269_0); (try rw [show 0 * 3 = 0 from rfl] at hx269_0); (try rw [Addr.add_zero'] at hx269_0); (try rw [show ((0 : Int)).toNat = 0 from rfl] at hx269_1); (try rw [show 0 * 3 = 0 from rfl] at hx269_1); (try rw [Addr.add_zero'] at hx269_1); (try rw [show ((0 : Int)).toNat = 0 from rfl] at hx269_2); (try rw [show 0 * 3 = 0 from rfl] at hx269_2); (try rw [Addr.add_zero'] at hx269_2); replace hx269_0 := zc HB hx269_0; replace hx269_1 := zc HB hx269_1; replace hx269_2 := zc HB hx269_2; have HR269_2 := Aside0.mk hi269_2; have HC269_2 := Aside0.mk hl269_2; clear hi269_2 hl269_2; replace p269 := eq_true p269; replace q269 := eq_true q269) | ((with_reducible refine gate_callee (f := 170) rfl ?_); refine goesL_ (some 10) rfl rfl Try.func170 (by kernel_rfl) rfl #[.slice A269_2 ((rd_T37 l0 0).f2).length c269_2, .func (.func 171) #[] #[.pointer (some ⟨gb268, 0, none⟩)]] rfl (by (try simp only [List.map_toArray, List.map_cons, List.map_nil]); first | done | rfl | (simp only [List.length_drop, List.length_take]; rfl)) ?_; (with_reducible refine (slices_IndexFunc__impl_Board_at_1.calls k _ _ ((rd_T37 l0 0).f2) _ [(⟨a1_0, a1_1⟩ : S74)] t270 _ ?side1 ?side2 ?side3 A4.out).mono ?_); (case side1 => exact zcc HB HR269_2.out); (case side2 => exact HC269_2.out); (case side3 => refine ro_of_blk (T := 74) (cs := #[.int .i8 a1_0, .int .i8 a1_1]) (zh BK268).out ?_; exact k74_mk _ (⟨a1_0, a1_1⟩ : S74) ); rintro e w6 ⟨rfl, hb⟩; refine ⟨_, rfl, ?_⟩; have n_ : _ ∧ _ := ⟨zk BK268 hb, zbs hb⟩; clear BK268 HB; obtain ⟨BK268, HB⟩ := n_; (try clear hb); (try clear hb2); (try clear hk); (try clear hi)))
 go_ret
 exact ⟨by first | rfl | (simp [errW_none, errW_some] <;> rfl) | (simp [*, errW_none, errW_some] <;> rfl), by repeat (first | (with_reducible first | exact HB.out | apply below_alloc | apply pw_below_drewN | apply below_drew1 | refine below_set ?_ GE268.out) | exact HB.out)⟩
/-! ### impl_isSide: function 146 -/
def impl_isSide.f (a0 : Int) : Option (Bool) := (impl_in.f a0 0 3).bind fun t271 => (some t271)
set_option maxHeartbeats 8000000 in
set_option maxRecDepth 100000 in
theorem impl_isSide.calls (a0 : Int) (r : Bool) (w : World) (h : impl_isSide.f a0 = some r) :
    Calls Try.prog 146 #[.int .i64 a0] w fun e w' => e = .returned (.bool r) ∧ Drawn0 w w' := by
 have H : ((impl_in.f a0 0 3).bind fun t271 => (some t271)) = some r := h
 clear h
 replace H := Option.bind_eq_some_iff.mp H
 obtain ⟨t271, A20, H⟩ := H
 replace H : (some t271) = some r := H
 have A2 := Aside0.mk A20
 clear A20
 obtain rfl := Option.some.inj H
 go_enter Try.func146, Try.ntmps146
 go_wp2_with (first | ((with_reducible refine gate_callee (f := 98) rfl ?_); refine goesL_ (some 4) rfl rfl Try.func98 (by kernel_rfl) rfl #[.int .i64 a0, .int .i64 0, .int .i64 3] rfl (by (try simp only [List.map_toArray, List.map_cons, List.map_nil]); first | done | rfl | (simp only [List.length_drop, List.length_take]; rfl)) ?_; (with_reducible refine (impl_in.calls a0 0 3 t271 _ A2.out).mono ?_); rintro e w' ⟨rfl, ⟨nd, rfl⟩⟩; refine ⟨_, rfl, ?_⟩))
 go_ret
 exact ⟨by first | rfl | (simp; done) | (simp [*]; done) | (exact congrArg (Value.int .i64) (wrap_eq (by omega))), by repeat (first | exact Drawn0.refl _ | apply Drawn0.step)⟩
/-! ### impl_Port_180: function 180 -/
def impl_Port_180.l0 : Nat → List (S116) → Int → Int → Int → Int → Int → Option (Int)
  | 0, _, _, _, _, _, _ => none
  | k + 1, x0, x7, x8, x273000, x273001, x273002 => if x8 < x7 then (if 0 ≤ x8 then (if x8 < (x0.length : Int) then (if ((x273000 == ((rd_T116 x0 x8).f0.f0) && (x273001 == ((rd_T116 x0 x8).f0.f1))) && (x273002 == ((rd_T116 x0 x8).f1))) = true then (some x8) else (impl_Port_180.l0 k x0 x7 (wrap64 (x8 + 1)) x273000 x273001 x273002)) else (none)) else (none)) else (some (-1))
def impl_Port_180.f (k : Nat) (l0 : List (S116)) (a1_0 : Int) (a1_1 : Int) (a1_2 : Int) : Option (Int) := impl_Port_180.l0 k l0 (l0.length : Int) 0 a1_0 a1_1 a1_2
theorem impl_Port_180.mono_l : ∀ k, (∀ y0 y1 y2 y3 y4 y5, LeO (impl_Port_180.l0 k y0 y1 y2 y3 y4 y5) (impl_Port_180.l0 (k + 1) y0 y1 y2 y3 y4 y5))
  | 0 => fun _ _ _ _ _ _ r h => by simp [impl_Port_180.l0] at h
  | k + 1 => by
    have ih0 := impl_Port_180.mono_l k
    · intro y0 y1 y2 y3 y4 y5
      unfold impl_Port_180.l0
      repeat' first | (with_reducible first | apply ih0 | exact LeO.refl _ | exact LeO.none _ | refine LeO.ite ?_ ?_ | refine LeO.bind ?_ (fun _ => ?_)) | apply ih0 | exact LeO.none _ | refine LeO.ite ?_ ?_ | refine LeO.bind ?_ (fun _ => ?_)
theorem impl_Port_180.mono : ∀ a0 a1 a2 a3 k, LeO (impl_Port_180.f k a0 a1 a2 a3) (impl_Port_180.f (k + 1) a0 a1 a2 a3) := by
 intro a0 a1 a2 a3 k
 have ih0 := impl_Port_180.mono_l k
 unfold impl_Port_180.f
 repeat' first | (with_reducible first | apply ih0 | exact LeO.refl _ | exact LeO.none _ | refine LeO.ite ?_ ?_ | refine LeO.bind ?_ (fun _ => ?_)) | apply ih0 | exact LeO.none _ | refine LeO.ite ?_ ?_ | refine LeO.bind ?_ (fun _ => ?_)
set_option maxHeartbeats 8000000 in
set_option maxRecDepth 100000 in
theorem impl_Port_180.calls (k : Nat) (A0 : Option Addr) (c0 : Nat) (l0 : List (S116)) (a1_0 : Int) (a1_1 : Int) (a1_2 : Int) (r : Int) (w : World) (hr0 : Kd.C k116 w A0 l0.length l0) (hc0 : l0.length ≤ c0) (h : impl_Port_180.f k l0 a1_0 a1_1 a1_2 = some r) :
    Calls Try.prog 180 #[.slice A0 l0.length c0, .agg #[.int .i8 a1_0, .int .i8 a1_1, .int .i8 a1_2]] w fun e w' => e = .returned (.int .i64 r) ∧ Below w.heap.size w w' := by
 have hu116 := Try.underlying116
 have HR0 := Aside0.mk hr0
 have HC0 := Aside0.mk hc0
 clear hr0 hc0
 have HB := Aside0.mk (Below.refl w.heap.size w)
 have H : (impl_Port_180.l0 k l0 (l0.length : Int) 0 a1_0 a1_1 a1_2) = some r := h
 clear h
 have H' := Aside0.mk H
 clear H
 go_enter Try.func180, Try.ntmps180
 go_wp2_with (first | ((with_reducible refine gate_dst (N := 3) rfl ?_); refine box_event ?hg (N := 3) ?hd (cs := #[.int .i8 a1_0, .int .i8 a1_1, .int .i8 a1_2]) (t := 116) ?hr ?_; (case hd => rfl); (case hg => rfl); (case hr => first | (go_simp; done) | (go_simp; rfl)); intro gb272 hg w3 hbox hb; have n_ : _ ∧ _ ∧ _ ∧ _ := ⟨zb HB hb, Aside0.mk (hbox), zg HB hg, zg HB hg⟩; clear HB; obtain ⟨HB, BK272, GW272, GE272⟩ := n_; clear hb hbox hg) | go_quiet (fail))
 go_loopg [8] k (fun kq v8 w' => ∃ (x8_1 : Int), v8 = .int .i64 x8_1 ∧ Aside0 (impl_Port_180.l0 kq l0 (l0.length : Int) x8_1 a1_0 a1_1 a1_2 = some r) ∧ Aside0 (kq ≤ k) ∧ Aside0 (w'.heap[gb272]? = some (.cells #[.int .i8 a1_0, .int .i8 a1_1, .int .i8 a1_2] 116 (0, 0))) ∧ Aside0 (Below w.heap.size w w'))
 case atStart => exact ⟨(0), (by first | rfl | (simp; done) | (simp [*]; done) | (exact congrArg (Value.int .i64) (wrap_eq (by omega)))), H', ⟨Nat.le_refl _⟩, zh BK272, zba⟩
 clear H'
 try clear c1
 try clear p2
 obtain ⟨x8_1, rfl, HA, HK1, BK272, HB⟩ := hrel
 cases gk with
 | zero => exact absurd HA.out (by simp [impl_Port_180.l0])
 | succ k1 => ?_
 have H := HA.out
 clear HA
 simp only [impl_Port_180.l0] at H
 by_cases c4 : x8_1 < (l0.length : Int)
 rotate_left
 ·rw [if_neg c4] at H
  have c4b0 : decide (x8_1 < (l0.length : Int)) = false := decide_eq_false c4
  clear c4
  obtain rfl := Option.some.inj H
  go_wp2
  repeat (go_quiet (fail); try go_wp2)
  go_ret
  exact ⟨by first | rfl | (simp [errW_none, errW_some] <;> rfl) | (simp [*, errW_none, errW_some] <;> rfl), by repeat (first | (with_reducible first | exact HB.out | apply below_alloc | apply pw_below_drewN | apply below_drew1 | refine below_set ?_ GE272.out) | exact HB.out)⟩
 rw [if_pos c4] at H
 have c4b0 : decide (x8_1 < (l0.length : Int)) = true := decide_eq_true c4
 clear c4
 by_cases c5 : 0 ≤ x8_1
 rotate_left
 ·rw [if_neg c5] at H
  exact absurd H (by simp)
 rw [if_pos c5] at H
 have c5b0 : decide (0 ≤ x8_1) = true := decide_eq_true c5
 clear c5
 by_cases c6 : x8_1 < (l0.length : Int)
 rotate_left
 ·rw [if_neg c6] at H
  exact absurd H (by simp)
 rw [if_pos c6] at H
 have c6b0 : decide (x8_1 < (l0.length : Int)) = true := decide_eq_true c6
 clear c6
 by_cases c7 : ((a1_0 == ((rd_T116 l0 x8_1).f0.f0) && (a1_1 == ((rd_T116 l0 x8_1).f0.f1))) && (a1_2 == ((rd_T116 l0 x8_1).f1))) = true
 rotate_left
 ·rw [if_neg c7] at H
  have c7b0 : ((a1_0 == ((rd_T116 l0 x8_1).f0.f0) && (a1_1 == ((rd_T116 l0 x8_1).f0.f1))) && (a1_2 == ((rd_T116 l0 x8_1).f1))) = false := by simpa using c7
  clear c7
  have H' := Aside0.mk H
  clear H
  obtain ⟨z9_0, z9_1, z9_2, y9_0, y9_1, y9_2⟩ := zB3 BK272
  have p273 : 0 ≤ (x8_1 : Int) := of_decide_eq_true (by first | (with_reducible assumption) | assumption)
  have q273 : x8_1 < (l0.length : Int) := of_decide_eq_true (by first | (with_reducible assumption) | assumption)
  obtain ⟨ad273, e273, hx273_0, hx273_1, hx273_2⟩ := at_T116 HR0.out x8_1 p273 q273
  cases e273
  replace hx273_0 := zc HB hx273_0
  replace hx273_1 := zc HB hx273_1
  replace hx273_2 := zc HB hx273_2
  replace p273 := eq_true p273
  replace q273 := eq_true q273
  go_wp2
  repeat (go_quiet (fail); try go_wp2)
  go_roundg k1
  case measure => have := HK1.out; omega
  case rel => exact ⟨(wrap64 (x8_1 + 1)), (by first | rfl | (simp; done) | (simp [*]; done) | (exact congrArg (Value.int .i64) (wrap_eq (by omega)))), H', ⟨by have := HK1.out; omega⟩, zh BK272, zba⟩
 rw [if_pos c7] at H
 have c7b0 : ((a1_0 == ((rd_T116 l0 x8_1).f0.f0) && (a1_1 == ((rd_T116 l0 x8_1).f0.f1))) && (a1_2 == ((rd_T116 l0 x8_1).f1))) = true := c7
 clear c7
 obtain rfl := Option.some.inj H
 obtain ⟨z8_0, z8_1, z8_2, y8_0, y8_1, y8_2⟩ := zB3 BK272
 have p273 : 0 ≤ (x8_1 : Int) := of_decide_eq_true (by first | (with_reducible assumption) | assumption)
 have q273 : x8_1 < (l0.length : Int) := of_decide_eq_true (by first | (with_reducible assumption) | assumption)
 obtain ⟨ad273, e273, hx273_0, hx273_1, hx273_2⟩ := at_T116 HR0.out x8_1 p273 q273
 cases e273
 replace hx273_0 := zc HB hx273_0
 replace hx273_1 := zc HB hx273_1
 replace hx273_2 := zc HB hx273_2
 replace p273 := eq_true p273
 replace q273 := eq_true q273
 go_wp2
 repeat (go_quiet (fail); try go_wp2)
 go_ret
 exact ⟨by first | rfl | (simp [errW_none, errW_some] <;> rfl) | (simp [*, errW_none, errW_some] <;> rfl), by repeat (first | (with_reducible first | exact HB.out | apply below_alloc | apply pw_below_drewN | apply below_drew1 | refine below_set ?_ GE272.out) | exact HB.out)⟩
/-! ### impl_Port_147: function 147 -/
def impl_Port_147.f (k : Nat) (l0 : List (S116)) (a1_0 : Int) (a1_1 : Int) (a1_2 : Int) : Option (Bool) := (impl_Port_180.f k l0 a1_0 a1_1 a1_2).bind fun t275 => (some (decide (t275 ≥ 0)))
theorem impl_Port_147.mono : ∀ a0 a1 a2 a3 k, LeO (impl_Port_147.f k a0 a1 a2 a3) (impl_Port_147.f (k + 1) a0 a1 a2 a3) := by
 intro a0 a1 a2 a3 k
 unfold impl_Port_147.f
 repeat' first | (with_reducible first | apply impl_Port_180.mono | exact LeO.refl _ | exact LeO.none _ | refine LeO.ite ?_ ?_ | refine LeO.bind ?_ (fun _ => ?_)) | apply impl_Port_180.mono | exact LeO.none _ | refine LeO.ite ?_ ?_ | refine LeO.bind ?_ (fun _ => ?_)
set_option maxHeartbeats 8000000 in
set_option maxRecDepth 100000 in
theorem impl_Port_147.calls (k : Nat) (A0 : Option Addr) (c0 : Nat) (l0 : List (S116)) (a1_0 : Int) (a1_1 : Int) (a1_2 : Int) (r : Bool) (w : World) (hr0 : Kd.C k116 w A0 l0.length l0) (hc0 : l0.length ≤ c0) (h : impl_Port_147.f k l0 a1_0 a1_1 a1_2 = some r) :
    Calls Try.prog 147 #[.slice A0 l0.length c0, .agg #[.int .i8 a1_0, .int .i8 a1_1, .int .i8 a1_2]] w fun e w' => e = .returned (.bool r) ∧ Below w.heap.size w w' := by
 have hu116 := Try.underlying116
 have HR0 := Aside0.mk hr0
 have HC0 := Aside0.mk hc0
 clear hr0 hc0
 have HB := Aside0.mk (Below.refl w.heap.size w)
 have H : ((impl_Port_180.f k l0 a1_0 a1_1 a1_2).bind fun t275 => (some (decide (t275 ≥ 0)))) = some r := h
 clear h
 replace H := Option.bind_eq_some_iff.mp H
 obtain ⟨t275, A30, H⟩ := H
 replace H : (some (decide (t275 ≥ 0))) = some r := H
 have A3 := Aside0.mk A30
 clear A30
 obtain rfl := Option.some.inj H
 go_enter Try.func147, Try.ntmps147
 go_wp2_with (first | ((with_reducible refine gate_dst (N := 3) rfl ?_); refine box_event ?hg (N := 3) ?hd (cs := #[.int .i8 a1_0, .int .i8 a1_1, .int .i8 a1_2]) (t := 116) ?hr ?_; (case hd => rfl); (case hg => rfl); (case hr => first | (go_simp; done) | (go_simp; rfl)); intro gb274 hg w4 hbox hb; have n_ : _ ∧ _ ∧ _ ∧ _ := ⟨zb HB hb, Aside0.mk (hbox), zg HB hg, zg HB hg⟩; clear HB; obtain ⟨HB, BK274, GW274, GE274⟩ := n_; clear hb hbox hg; obtain ⟨z5_0, z5_1, z5_2, y5_0, y5_1, y5_2⟩ := zB3 BK274) | ((with_reducible refine gate_callee (f := 180) rfl ?_); refine goesL_ (some 7) rfl rfl Try.func180 (by kernel_rfl) rfl #[.slice A0 l0.length c0, .agg #[.int .i8 a1_0, .int .i8 a1_1, .int .i8 a1_2]] rfl (by (try simp only [List.map_toArray, List.map_cons, List.map_nil]); first | done | rfl | (simp only [List.length_drop, List.length_take]; rfl)) ?_; (with_reducible refine (impl_Port_180.calls k _ _ l0 a1_0 a1_1 a1_2 t275 _ ?side1 ?side2 A3.out).mono ?_); (case side1 => exact zcc HB HR0.out); (case side2 => exact HC0.out); rintro e w6 ⟨rfl, hb⟩; refine ⟨_, rfl, ?_⟩; have n_ : _ ∧ _ := ⟨zk BK274 hb, zbs hb⟩; clear BK274 HB; obtain ⟨BK274, HB⟩ := n_; (try clear hb); (try clear hb2); (try clear hk); (try clear hi)))
 go_ret
 exact ⟨by first | rfl | (simp [errW_none, errW_some] <;> rfl) | (simp [*, errW_none, errW_some] <;> rfl), by repeat (first | (with_reducible first | exact HB.out | apply below_alloc | apply pw_below_drewN | apply below_drew1 | refine below_set ?_ GE274.out) | exact HB.out)⟩
-- NOT PRINTED: function 181 (impl_Cell_181)

-- NOT PRINTED: function 148 (impl_Cell_148)

/-! ### impl_ValidMachine_1: function 149 -/
def impl_ValidMachine_1.f (k : Nat) (a0_0 : Int) (a0_1 : Int) (l1 : List (S41)) : Option (Bool) := if 0 < (l1.length : Int) then ((impl_Board_at.f k [(⟨(rd_T41 l1 0).f0.f0, (rd_T41 l1 0).f0.f1, (rd_T41 l1 0).f0.f2⟩ : S37)] a0_0 a0_1).bind fun t278 => (some (decide (t278 < 0)))) else (none)
theorem impl_ValidMachine_1.mono : ∀ a0 a1 a2 k, LeO (impl_ValidMachine_1.f k a0 a1 a2) (impl_ValidMachine_1.f (k + 1) a0 a1 a2) := by
 intro a0 a1 a2 k
 unfold impl_ValidMachine_1.f
 repeat' first | (with_reducible first | apply impl_Board_at.mono | exact LeO.refl _ | exact LeO.none _ | refine LeO.ite ?_ ?_ | refine LeO.bind ?_ (fun _ => ?_)) | apply impl_Board_at.mono | exact LeO.none _ | refine LeO.ite ?_ ?_ | refine LeO.bind ?_ (fun _ => ?_)
set_option maxHeartbeats 8000000 in
set_option maxRecDepth 100000 in
theorem impl_ValidMachine_1.calls (k : Nat) (a0_0 : Int) (a0_1 : Int) (adp1 : Addr) (l1 : List (S41)) (r : Bool) (w : World) (hr1 : Kd.C k41 w (some adp1) l1.length l1) (h : impl_ValidMachine_1.f k a0_0 a0_1 l1 = some r) :
    Calls Try.prog 149 #[.agg #[.int .i8 a0_0, .int .i8 a0_1], .pointer (some adp1)] w fun e w' => e = .returned (.bool r) ∧ Below w.heap.size w w' := by
 have hu74 := Try.underlying74
 have HR1 := Aside0.mk hr1
 clear hr1
 have HB := Aside0.mk (Below.refl w.heap.size w)
 have H : (if 0 < (l1.length : Int) then ((impl_Board_at.f k [(⟨(rd_T41 l1 0).f0.f0, (rd_T41 l1 0).f0.f1, (rd_T41 l1 0).f0.f2⟩ : S37)] a0_0 a0_1).bind fun t278 => (some (decide (t278 < 0)))) else (none)) = some r := h
 clear h
 by_cases c3 : 0 < (l1.length : Int)
 rotate_left
 ·rw [if_neg c3] at H
  exact absurd H (by simp)
 rw [if_pos c3] at H
 have c3b0 : decide (0 < (l1.length : Int)) = true := decide_eq_true c3
 have c3b1 : decide (0 < l1.length) = true := decide_eq_true (by omega)
 clear c3
 replace H := Option.bind_eq_some_iff.mp H
 obtain ⟨t278, A40, H⟩ := H
 replace H : (some (decide (t278 < 0))) = some r := H
 have A4 := Aside0.mk A40
 clear A40
 obtain rfl := Option.some.inj H
 go_enter Try.func149, Try.ntmps149
 go_wp2_with (first | ((with_reducible refine gate_dst (N := 2) rfl ?_); refine box_event ?hg (N := 2) ?hd (cs := #[.int .i8 a0_0, .int .i8 a0_1]) (t := 74) ?hr ?_; (case hd => rfl); (case hg => rfl); (case hr => first | (go_simp; done) | (go_simp; rfl)); intro gb276 hg w5 hbox hb; have n_ : _ ∧ _ ∧ _ ∧ _ := ⟨zb HB hb, Aside0.mk (hbox), zg HB hg, zg HB hg⟩; clear HB; obtain ⟨HB, BK276, GW276, GE276⟩ := n_; clear hb hbox hg; have p277 : 0 ≤ (0 : Int) := (by omega); have q277 : 0 < (l1.length : Int) := of_decide_eq_true (by first | (with_reducible assumption) | assumption); obtain ⟨ad277, A277_2, c277_2, A277_3, c277_3, A277_4, c277_4, e277, hx277_0, hx277_1, hx277_2, hx277_3, hx277_4, hl277_2, hi277_2, hl277_3, hi277_3, hl277_4, hi277_4⟩ := at_T41 HR1.out 0 p277 q277; obtain rfl : adp1 = ad277 := (by injection e277); have qi277 : (0 < l1.length) = True := eq_true (by omega); (try rw [show ((0 : Int)).toNat = 0 from rfl] at hx277_0); (try rw [show 0 * 5 = 0 from rfl] at hx277_0); (try rw [Addr.add_zero'] at hx277_0); (try rw [show ((0 : Int)).toNat = 0 from rfl] at hx277_1); (try rw [show 0 * 5 = 0 from rfl] at hx277_1); (try rw [Addr.add_zero'] at hx277_1); (try rw [show ((0 : Int)).toNat = 0 from rfl] at hx277_2); (try rw [show 0 * 5 = 0 from rfl] at hx277_2); (try rw [Addr.add_zero'] at hx277_2); (try rw [show ((0 : Int)).toNat = 0 from rfl] at hx277_3); (try rw [show 0 * 5 = 0 from rfl] at hx277_3); (try rw [Addr.add_zero'] at hx277_3); (try rw [show ((0 : Int)).toNat = 0 from rfl] at hx277_4); (try rw [show 0 * 5 = 0 from rfl] at hx277_4); (try rw [Addr.add_zero'] at hx277_4); replace hx277_0 := zc HB hx277_0; replace hx277_1 := zc HB hx277_1; replace hx277_2 := zc HB hx277_2; replace hx277_3 := zc HB hx277_3; replace hx277_4 := zc HB hx277_4; have HR277_2 := Aside0.mk hi277_2; have HC277_2 := Aside0.mk hl277_2; clear hi277_2 hl277_2; have HR277_3 := Aside0.mk hi277_3; have HC277_3 := Aside0.mk hl277_3; clear hi277_3 hl277_3; have HR277_4 := Aside0.mk hi277_4; have HC277_4 := Aside0.mk hl277_4; clear hi277_4 hl277_4; replace p277 := eq_true p277; replace q277 := eq_true q277; obtain ⟨z6_0, z6_1, y6_0, y6_1⟩ := zB2 BK276) | ((with_reducible refine gate_callee (f := 119) rfl ?_); refine goesL_ (some 6) rfl rfl Try.func119 (by kernel_rfl) rfl #[.pointer (some adp1), .agg #[.int .i8 a0_0, .int .i8 a0_1]] rfl (by (try simp only [List.map_toArray, List.map_cons, List.map_nil]); first | done | rfl | (simp only [List.length_drop, List.length_take]; rfl)) ?_; (with_reducible refine (impl_Board_at.calls k _ [(⟨(rd_T41 l1 0).f0.f0, (rd_T41 l1 0).f0.f1, (rd_T41 l1 0).f0.f2⟩ : S37)] a0_0 a0_1 t278 _ ?side1 A4.out).mono ?_); (case side1 => refine ro_first (d := k41) (d1 := k37) (f := fun x : S41 => (x.f0, x.f1, x.f2)) (l := l1) rfl z41 ?_ (by first | (have h_ := of_eq_true q277; omega) | (have h_ : 0 < (l1.length : Int) := of_decide_eq_true (by assumption); omega) | omega) rfl; exact zcc HB HR1.out); rintro e w7 ⟨rfl, hb⟩; refine ⟨_, rfl, ?_⟩; have n_ : _ ∧ _ := ⟨zk BK276 hb, zbs hb⟩; clear BK276 HB; obtain ⟨BK276, HB⟩ := n_; (try clear hb); (try clear hb2); (try clear hk); (try clear hi)))
 go_ret
 exact ⟨by first | rfl | (simp [errW_none, errW_some] <;> rfl) | (simp [*, errW_none, errW_some] <;> rfl), by repeat (first | (with_reducible first | exact HB.out | apply below_alloc | apply pw_below_drewN | apply below_drew1 | refine below_set ?_ GE276.out) | exact HB.out)⟩
end Go.Proofs.Ytffnfpnajkgnaaa.PFnExactPushesFor
