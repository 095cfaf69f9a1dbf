-- WRITTEN by xprint.py, a program of this session's. Not trusted: Lean checks it.
-- packed by pack.py
import Derived.Test.YtffnfpnajkgnaaaPFnExactMoveBoardx0
import Derived.Test.YtffnfpnajkgnaaaPFnExactMoveBoardx7
import Derived.Test.YtffnfpnajkgnaaaTFnExactMoveBoarda
namespace Go.Proofs.Ytffnfpnajkgnaaa.PFnExactMoveBoard
open Go.RowKit Go.Proofs.YtffnfpnajkgnaaaW.PrintWords Go.Proofs.YtffnfpnajkgnaaaW.PrintLast Go.Proofs.YtffnfpnajkgnaaaW.PrintMore Go.Proofs.YtffnfpnajkgnaaaX
attribute [local go_sem] max2_int min2_int max_two min_two max_three min_three max_four min_four   -- for this text's walks alone
set_option linter.unusedVariables false
set_option linter.unusedSimpArgs false

/-! ### impl_ValidBoard: function 43 -/
theorem cellKey : CellKey Try.prog 74 22 := ⟨Try.underlying74, Try.underlying22, by kernel_rfl⟩
theorem zeroBool (w : World) : (zeroValue 4).run Try.prog w = .ok (.bool false) w := by kernel_rfl
mutual
def impl_ValidBoard.j0 : Nat → Bool → Int → Int → List (S91) → Option (Bool)
  | 0, _, _, _, _ => none
  | k + 1, x23, x171000, x171001, x171002 => if x23 = true then (some false) else (impl_ValidBoard.l0 k x171002 (x171002.length : Int) 0 x171000 x171001 x171002 [])
def impl_ValidBoard.l0 : Nat → List (S91) → Int → Int → Int → Int → List (S91) → List ((Int × Int) × Unit) → Option (Bool)
  | 0, _, _, _, _, _, _, _ => none
  | k + 1, x26, x27, x28, x171000, x171001, x171002, x900 => if x28 < x27 then (if 0 ≤ x28 then (if x28 < (x26.length : Int) then ((impl_ValidPiece.f ((rd_T91 x26 x28).f0.f0) ((rd_T91 x26 x28).f0.f1) ((rd_T91 x26 x28).f1) ((rd_T91 x26 x28).f2) ((rd_T91 x26 x28).f3)).bind fun t175 => (if t175 = true then ((impl_Board_has.f [(⟨x171000, x171001, x171002⟩ : S37)] ((rd_T91 x26 x28).f0.f0) ((rd_T91 x26 x28).f0.f1)).bind fun t176 => (if t176 = true then (if (mfind x900 ((rd_T91 x26 x28).f0.f0) ((rd_T91 x26 x28).f0.f1)).isSome = true then (some false) else (impl_ValidBoard.l0 k x26 x27 (wrap64 (x28 + 1)) x171000 x171001 x171002 (x900 ++ [((((rd_T91 x26 x28).f0.f0), ((rd_T91 x26 x28).f0.f1)), ())]))) else (some false))) else (some false))) else (none)) else (none)) else (some true)
end
def impl_ValidBoard.f (k : Nat) (a0_0 : Int) (a0_1 : Int) (l0_2 : List (S91)) : Option (Bool) := (impl_in.f (wrap64 (a0_0)) 1 24).bind fun t171 => (if t171 = true then ((impl_in.f (wrap64 (a0_1)) 1 24).bind fun t172 => (if t172 = true then (impl_ValidBoard.j0 k (decide ((l0_2.length : Int) > 200)) a0_0 a0_1 l0_2) else (impl_ValidBoard.j0 k true a0_0 a0_1 l0_2))) else (impl_ValidBoard.j0 k true a0_0 a0_1 l0_2))
theorem impl_ValidBoard.mono_l : ∀ k, (∀ y0 y1 y2 y3, LeO (impl_ValidBoard.j0 k y0 y1 y2 y3) (impl_ValidBoard.j0 (k + 1) y0 y1 y2 y3)) ∧ (∀ y0 y1 y2 y3 y4 y5 y6, LeO (impl_ValidBoard.l0 k y0 y1 y2 y3 y4 y5 y6) (impl_ValidBoard.l0 (k + 1) y0 y1 y2 y3 y4 y5 y6))
  | 0 => ⟨fun _ _ _ _ r h => by simp [impl_ValidBoard.j0] at h, fun _ _ _ _ _ _ _ r h => by simp [impl_ValidBoard.l0] at h⟩
  | k + 1 => by
    obtain ⟨ih0, ih1⟩ := impl_ValidBoard.mono_l k
    refine ⟨?_, ?_⟩
    · intro y0 y1 y2 y3
      unfold impl_ValidBoard.j0
      repeat' first | (with_reducible first | apply ih0 | apply ih1 | exact LeO.refl _ | exact LeO.none _ | refine LeO.ite ?_ ?_ | refine LeO.bind ?_ (fun _ => ?_)) | apply ih0 | apply ih1 | exact LeO.none _ | refine LeO.ite ?_ ?_ | refine LeO.bind ?_ (fun _ => ?_)
    · intro y0 y1 y2 y3 y4 y5 y6
      unfold impl_ValidBoard.l0
      repeat' first | (with_reducible first | apply ih0 | apply ih1 | exact LeO.refl _ | exact LeO.none _ | refine LeO.ite ?_ ?_ | refine LeO.bind ?_ (fun _ => ?_)) | apply ih0 | apply ih1 | exact LeO.none _ | refine LeO.ite ?_ ?_ | refine LeO.bind ?_ (fun _ => ?_)
theorem impl_ValidBoard.mono : ∀ a0 a1 a2 k, LeO (impl_ValidBoard.f k a0 a1 a2) (impl_ValidBoard.f (k + 1) a0 a1 a2) := by
 intro a0 a1 a2 k
 obtain ⟨ih0, ih1⟩ := impl_ValidBoard.mono_l k
 unfold impl_ValidBoard.f
 repeat' first | (with_reducible first | apply ih0 | apply ih1 | exact LeO.refl _ | exact LeO.none _ | refine LeO.ite ?_ ?_ | refine LeO.bind ?_ (fun _ => ?_)) | apply ih0 | apply ih1 | exact LeO.none _ | refine LeO.ite ?_ ?_ | refine LeO.bind ?_ (fun _ => ?_)
set_option maxHeartbeats 8000000 in
set_option maxRecDepth 100000 in
theorem impl_ValidBoard.calls (k : Nat) (a0_0 : Int) (a0_1 : Int) (A0_2 : Option Addr) (c0_2 : Nat) (l0_2 : List (S91)) (r : Bool) (w : World) (hr0_2 : Kd.C k91 w A0_2 l0_2.length l0_2) (hc0_2 : l0_2.length ≤ c0_2) (h : impl_ValidBoard.f k a0_0 a0_1 l0_2 = some r) :
    Calls Try.prog 43 #[.agg #[.int .i8 a0_0, .int .i8 a0_1, .slice A0_2 l0_2.length c0_2]] w fun e w' => e = .returned (.bool r) ∧ Below w.heap.size w w' := by
 have hu37 := Try.underlying37
 have hu91 := Try.underlying91
 have hu74 := Try.underlying74
 have HR0_2 := Aside0.mk hr0_2
 have HC0_2 := Aside0.mk hc0_2
 clear hr0_2 hc0_2
 have HB := Aside0.mk (Below.refl w.heap.size w)
 have H : ((impl_in.f (wrap64 (a0_0)) 1 24).bind fun t171 => (if t171 = true then ((impl_in.f (wrap64 (a0_1)) 1 24).bind fun t172 => (if t172 = true then (impl_ValidBoard.j0 k (decide ((l0_2.length : Int) > 200)) a0_0 a0_1 l0_2) else (impl_ValidBoard.j0 k true a0_0 a0_1 l0_2))) else (impl_ValidBoard.j0 k true a0_0 a0_1 l0_2))) = some r := h
 clear h
 have HC2 := Aside0.mk H
 clear H
 go_enter Try.func43, Try.ntmps43
 go_upto_region 1 with (first | ((with_reducible refine gate_dst (N := 1) rfl ?_); (try (refine gate_guard (by rfl) ?_; dsimp only)); refine box_event ?hg (N := 1) ?hd (cs := #[.int .i8 a0_0, .int .i8 a0_1, .slice A0_2 l0_2.length c0_2]) (t := 37) ?hr ?_; (case hd => rfl); (case hg => rfl); (case hr => first | (go_simp; done) | (go_simp; rfl)); intro gb170 hg w3 hbox hb; have n_ : _ ∧ _ ∧ _ ∧ _ := ⟨zb HB hb, Aside0.mk (hbox), zg HB hg, zg HB hg⟩; clear HB; obtain ⟨HB, BK170, GW170, GE170⟩ := n_; clear hb hbox hg))
 (try simp only [Act.put, List.setIfInBounds_toArray, List.set_cons_zero, List.set_cons_succ])
 go_cut [23] (fun v23 wc => ∃ (kq : Nat) (x23_1 : Bool), v23 = .bool x23_1 ∧ Aside0 (impl_ValidBoard.j0 kq x23_1 a0_0 a0_1 l0_2 = some r) ∧ Aside0 (kq ≤ k) ∧ Aside0 (wc.heap[gb170]? = some (.cells #[.int .i8 a0_0, .int .i8 a0_1, (.slice A0_2 l0_2.length c0_2)] 37 (0, 0))) ∧ Aside0 (Below w.heap.size w wc))
 case first =>
  have H := HC2.out
  clear HC2
  replace H := Option.bind_eq_some_iff.mp H
  obtain ⟨t171, A40, H⟩ := H
  replace H : (if t171 = true then ((impl_in.f (wrap64 (a0_1)) 1 24).bind fun t172 => (if t172 = true then (impl_ValidBoard.j0 k (decide ((l0_2.length : Int) > 200)) a0_0 a0_1 l0_2) else (impl_ValidBoard.j0 k true a0_0 a0_1 l0_2))) else (impl_ValidBoard.j0 k true a0_0 a0_1 l0_2)) = some r := H
  have A4 := Aside0.mk A40
  clear A40
  by_cases c5 : t171 = true
  rotate_left
  ·replace c5 := Bool.eq_false_iff.mpr c5
   subst c5
   have H1 : (impl_ValidBoard.j0 k true a0_0 a0_1 l0_2) = some r := by rw [if_neg (show ¬ (false = true) by decide)] at H; exact H
   clear H
   have H := H1
   clear H1
   have H' := Aside0.mk H
   clear H
   obtain ⟨z10_0, z10_1, z10_2, y10_0, y10_1, y10_2⟩ := zB3 BK170
   go_wp2_with (first | ((with_reducible refine gate_callee (f := 98) rfl ?_); refine goesL_ (some 9) rfl rfl Try.func98 (by kernel_rfl) rfl #[.int .i64 (wrap64 (a0_0)), .int .i64 1, .int .i64 24] rfl (by (try simp only [List.map_toArray, List.map_cons, List.map_nil]); first | done | rfl | (simp only [List.length_drop, List.length_take]; rfl)) ?_; (with_reducible refine (impl_in.calls (wrap64 (a0_0)) 1 24 false _ A4.out).mono ?_); rintro e w' ⟨rfl, ⟨nd, rfl⟩⟩; refine ⟨_, rfl, ?_⟩))
   go_meet
   case rel => exact ⟨_, (true), (by first | rfl | (simp; done) | (simp [*]; done) | (exact congrArg (Value.int .i64) (wrap_eq (by omega)))), H', ⟨by first | omega | exact Nat.le_refl _⟩, zh BK170, zba⟩
  subst c5
  have H1 : ((impl_in.f (wrap64 (a0_1)) 1 24).bind fun t172 => (if t172 = true then (impl_ValidBoard.j0 k (decide ((l0_2.length : Int) > 200)) a0_0 a0_1 l0_2) else (impl_ValidBoard.j0 k true a0_0 a0_1 l0_2))) = some r := by rw [if_pos rfl] at H; exact H
  clear H
  have H := H1
  clear H1
  replace H := Option.bind_eq_some_iff.mp H
  obtain ⟨t172, A60, H⟩ := H
  replace H : (if t172 = true then (impl_ValidBoard.j0 k (decide ((l0_2.length : Int) > 200)) a0_0 a0_1 l0_2) else (impl_ValidBoard.j0 k true a0_0 a0_1 l0_2)) = some r := H
  have A6 := Aside0.mk A60
  clear A60
  by_cases c7 : t172 = true
  ·subst c7
   have H1 : (impl_ValidBoard.j0 k (decide ((l0_2.length : Int) > 200)) a0_0 a0_1 l0_2) = some r := by rw [if_pos rfl] at H; exact H
   clear H
   have H := H1
   clear H1
   have H' := Aside0.mk H
   clear H
   obtain ⟨z8_0, z8_1, z8_2, y8_0, y8_1, y8_2⟩ := zB3 BK170
   go_wp2_with (first | ((with_reducible refine gate_callee (f := 98) rfl ?_); refine goesL_ (some 9) rfl rfl Try.func98 (by kernel_rfl) rfl #[.int .i64 (wrap64 (a0_0)), .int .i64 1, .int .i64 24] rfl (by (try simp only [List.map_toArray, List.map_cons, List.map_nil]); first | done | rfl | (simp only [List.length_drop, List.length_take]; rfl)) ?_; (with_reducible refine (impl_in.calls (wrap64 (a0_0)) 1 24 true _ A4.out).mono ?_); rintro e w' ⟨rfl, ⟨nd, rfl⟩⟩; refine ⟨_, rfl, ?_⟩) | (go_at_call 98; (with_reducible refine (impl_in.calls (wrap64 (a0_1)) 1 24 true _ A6.out).mono ?_); rintro e w' ⟨rfl, ⟨nd, rfl⟩⟩))
   go_meet
   case rel => exact ⟨_, (decide ((l0_2.length : Int) > 200)), (by first | rfl | (simp; done) | (simp [*]; done) | (exact congrArg (Value.int .i64) (wrap_eq (by omega)))), H', ⟨by first | omega | exact Nat.le_refl _⟩, zh BK170, zba⟩
  replace c7 := Bool.eq_false_iff.mpr c7
  subst c7
  have H1 : (impl_ValidBoard.j0 k true a0_0 a0_1 l0_2) = some r := by rw [if_neg (show ¬ (false = true) by decide)] at H; exact H
  clear H
  have H := H1
  clear H1
  have H' := Aside0.mk H
  clear H
  obtain ⟨z9_0, z9_1, z9_2, y9_0, y9_1, y9_2⟩ := zB3 BK170
  go_wp2_with (first | ((with_reducible refine gate_callee (f := 98) rfl ?_); refine goesL_ (some 9) rfl rfl Try.func98 (by kernel_rfl) rfl #[.int .i64 (wrap64 (a0_0)), .int .i64 1, .int .i64 24] rfl (by (try simp only [List.map_toArray, List.map_cons, List.map_nil]); first | done | rfl | (simp only [List.length_drop, List.length_take]; rfl)) ?_; (with_reducible refine (impl_in.calls (wrap64 (a0_0)) 1 24 true _ A4.out).mono ?_); rintro e w' ⟨rfl, ⟨nd, rfl⟩⟩; refine ⟨_, rfl, ?_⟩) | (go_at_call 98; (with_reducible refine (impl_in.calls (wrap64 (a0_1)) 1 24 false _ A6.out).mono ?_); rintro e w' ⟨rfl, ⟨nd, rfl⟩⟩))
  go_meet
  case rel => exact ⟨_, (true), (by first | rfl | (simp; done) | (simp [*]; done) | (exact congrArg (Value.int .i64) (wrap_eq (by omega)))), H', ⟨by first | omega | exact Nat.le_refl _⟩, zh BK170, zba⟩
 clear HC2
 try clear p2
 try clear c4
 try clear c5
 try clear p6
 try clear c7
 try clear c9
 try clear z10_0 z10_1 z10_2
 try clear z8_0 z8_1 z8_2
 try clear z9_0 z9_1 z9_2
 try clear y10_0
 try clear y10_1
 try clear y10_2
 try clear y8_0
 try clear y8_1
 try clear y8_2
 try clear y9_0
 try clear y9_1
 try clear y9_2
 obtain ⟨kq, x23_1, rfl, HA, HJ1, BK170, HB⟩ := hcut
 cases kq with
 | zero => exact absurd HA.out (by simp [impl_ValidBoard.j0])
 | succ kj1 => ?_
 have H := HA.out
 clear HA
 simp only [impl_ValidBoard.j0] at H
 by_cases c11 : x23_1 = true
 ·subst c11
  have H1 : (some false) = some r := by rw [if_pos rfl] at H; exact H
  clear H
  have H := H1
  clear H1
  obtain rfl := Option.some.inj H
  go_wp2
  go_ret
  exact ⟨by first | rfl | (simp [errW_none, errW_some] <;> rfl) | (simp [*, errW_none, errW_some] <;> rfl), by repeat (first | (with_reducible first | exact HB.out | apply below_alloc | apply pw_below_drewN | apply below_drew1 | refine below_set ?_ GE170.out) | exact HB.out)⟩
 replace c11 := Bool.eq_false_iff.mpr c11
 subst c11
 have H1 : (impl_ValidBoard.l0 kj1 l0_2 (l0_2.length : Int) 0 a0_0 a0_1 l0_2 []) = some r := by rw [if_neg (show ¬ (false = true) by decide)] at H; exact H
 clear H
 have H := H1
 clear H1
 have H' := Aside0.mk H
 clear H
 obtain ⟨z12_0, z12_1, z12_2, y12_0, y12_1, y12_2⟩ := zB3 BK170
 go_wp2_with (first | ((with_reducible refine gate_dst (N := 24) rfl ?_); (try (refine gate_guard (by rfl) ?_; dsimp only)); refine map_event rfl 138 rfl ?_; intro gm hg w40 hmap hb; have n_ : _ ∧ _ ∧ _ ∧ _ := ⟨zk BK170 hb, zbs hb, Aside0.mk hmap, Aside0.mk ((by rw [hg]; exact (zz HB)) : w.heap.size ≤ gm)⟩; clear BK170 HB; obtain ⟨BK170, HB, MM, GEM⟩ := n_; clear hb hmap hg; obtain ⟨z40_0, z40_1, z40_2, y40_0, y40_1, y40_2⟩ := zB3 BK170))
 go_loopg [28] kj1 (fun kq v28 w' => ∃ (x28_2 : Int) (x900 : List ((Int × Int) × Unit)) (es : Array MapEntry) (ck : Nat), v28 = .int .i64 x28_2 ∧ Aside0 (impl_ValidBoard.l0 kq l0_2 (l0_2.length : Int) x28_2 a0_0 a0_1 l0_2 x900 = some r) ∧ Aside0 (kq ≤ kj1) ∧ Aside0 (w'.heap[gb170]? = some (.cells #[.int .i8 a0_0, .int .i8 a0_1, (.slice A0_2 l0_2.length c0_2)] 37 (0, 0))) ∧ Aside0 (w'.heap[gm]? = some (.map es ck)) ∧ Aside0 (ER (fun _ : Unit => Value.bool true) es x900) ∧ Aside0 (Below w.heap.size w w'))
 case atStart => exact ⟨(0), [], #[], 0, (by first | rfl | (simp; done) | (simp [*]; done) | (exact congrArg (Value.int .i64) (wrap_eq (by omega)))), H', ⟨Nat.le_refl _⟩, zh BK170, zh MM, ⟨rfl⟩, zba⟩
 clear H'
 try clear c1
 try clear p2
 try clear c4
 try clear c5
 try clear p6
 try clear c7
 try clear c9
 try clear c11
 try clear z10_0 z10_1 z10_2
 try clear z12_0 z12_1 z12_2
 try clear z8_0 z8_1 z8_2
 try clear z9_0 z9_1 z9_2
 try clear y10_0
 try clear y10_1
 try clear y10_2
 try clear y12_0
 try clear y12_1
 try clear y12_2
 try clear y8_0
 try clear y8_1
 try clear y8_2
 try clear y9_0
 try clear y9_1
 try clear y9_2
 try clear p2
 try clear p6
 obtain ⟨x28_2, x900, es, ck, rfl, HA, HK2, BK170, MM, MER, HB⟩ := hrel
 have GMB : Aside0 (gb170 ≠ gm) := ⟨by rintro rfl; have h1 := BK170.out; rw [MM.out] at h1; cases h1⟩
 try clear z40_0 z40_1 z40_2 y40_0 y40_1 y40_2
 cases gk with
 | zero => exact absurd HA.out (by simp [impl_ValidBoard.l0])
 | succ k2 => ?_
 have H := HA.out
 clear HA
 simp only [impl_ValidBoard.l0] at H
 by_cases c13 : x28_2 < (l0_2.length : Int)
 rotate_left
 ·rw [if_neg c13] at H
  have c13b0 : decide (x28_2 < (l0_2.length : Int)) = false := decide_eq_false c13
  clear c13
  obtain rfl := Option.some.inj H
  go_wp2
  go_ret
  exact ⟨by first | rfl | (simp [errW_none, errW_some] <;> rfl) | (simp [*, errW_none, errW_some] <;> rfl), by repeat (first | (with_reducible first | exact HB.out | apply below_alloc | apply pw_below_drewN | apply below_drew1 | refine below_set ?_ GE170.out) | exact HB.out)⟩
 rw [if_pos c13] at H
 have c13b0 : decide (x28_2 < (l0_2.length : Int)) = true := decide_eq_true c13
 clear c13
 by_cases c14 : 0 ≤ x28_2
 rotate_left
 ·rw [if_neg c14] at H
  exact absurd H (by simp)
 rw [if_pos c14] at H
 have c14b0 : decide (0 ≤ x28_2) = true := decide_eq_true c14
 clear c14
 by_cases c15 : x28_2 < (l0_2.length : Int)
 rotate_left
 ·rw [if_neg c15] at H
  exact absurd H (by simp)
 rw [if_pos c15] at H
 have c15b0 : decide (x28_2 < (l0_2.length : Int)) = true := decide_eq_true c15
 clear c15
 replace H := Option.bind_eq_some_iff.mp H
 obtain ⟨t175, A160, H⟩ := H
 replace H : (if t175 = true then ((impl_Board_has.f [(⟨a0_0, a0_1, l0_2⟩ : S37)] ((rd_T91 l0_2 x28_2).f0.f0) ((rd_T91 l0_2 x28_2).f0.f1)).bind fun t176 => (if t176 = true then (if (mfind x900 ((rd_T91 l0_2 x28_2).f0.f0) ((rd_T91 l0_2 x28_2).f0.f1)).isSome = true then (some false) else (impl_ValidBoard.l0 k2 l0_2 (l0_2.length : Int) (wrap64 (x28_2 + 1)) a0_0 a0_1 l0_2 (x900 ++ [((((rd_T91 l0_2 x28_2).f0.f0), ((rd_T91 l0_2 x28_2).f0.f1)), ())]))) else (some false))) else (some false)) = some r := H
 have A16 := Aside0.mk A160
 clear A160
 by_cases c17 : t175 = true
 rotate_left
 ·replace c17 := Bool.eq_false_iff.mpr c17
  subst c17
  have H1 : (some false) = some r := by rw [if_neg (show ¬ (false = true) by decide)] at H; exact H
  clear H
  have H := H1
  clear H1
  obtain rfl := Option.some.inj H
  have p173 : 0 ≤ (x28_2 : Int) := of_decide_eq_true (by first | (with_reducible assumption) | assumption)
  have q173 : x28_2 < (l0_2.length : Int) := of_decide_eq_true (by first | (with_reducible assumption) | assumption)
  obtain ⟨ad173, e173, hx173_0, hx173_1, hx173_2, hx173_3, hx173_4⟩ := at_T91 HR0_2.out x28_2 p173 q173
  cases e173
  replace hx173_0 := zc HB hx173_0
  replace hx173_1 := zc HB hx173_1
  replace hx173_2 := zc HB hx173_2
  replace hx173_3 := zc HB hx173_3
  replace hx173_4 := zc HB hx173_4
  replace p173 := eq_true p173
  replace q173 := eq_true q173
  go_wp2_with (first | ((with_reducible refine gate_dst (N := 5) rfl ?_); (try (refine gate_guard (by rfl) ?_; dsimp only)); refine box_event ?hg (N := 5) ?hd (cs := #[.int .i8 0, .int .i8 0, .int .i8 0, .int .i8 0, .int .i8 0]) (t := 91) ?hr ?_; (case hd => rfl); (case hg => rfl); (case hr => first | (go_simp; done) | (go_simp; rfl)); intro gb174 hg w33 hbox hb; have NM174 := Aside0.mk ((by rw [hg]; exact Nat.ne_of_lt (blk_lt (g := gm) (o := .map es ck) (zh MM).out)) : gm ≠ gb174); have m0_ := zk MM hb; clear MM; have MM := m0_; clear m0_; have n_ : _ ∧ _ ∧ _ ∧ _ ∧ _ ∧ _ ∧ _ := ⟨zk BK170 hb, zbs hb, Aside0.mk (hbox), zg HB hg, zg HB hg, zn1 BK170 hg, zn2 BK170 hg⟩; clear BK170 HB; obtain ⟨BK170, HB, BK174, GW174, GE174, NB170_174, NB174_170⟩ := n_; clear hb hbox hg; have hnb34 := NB174_170.out; have hnc34 := NB170_174.out; obtain ⟨z35_0, z35_1, z35_2, z35_3, z35_4, y35_0, y35_1, y35_2, y35_3, y35_4⟩ := zB5 BK174) | ((with_reducible refine gate_callee (f := 108) rfl ?_); refine goesL_ (some 33) rfl rfl Try.func108 (by kernel_rfl) rfl #[.agg #[.int .i8 ((rd_T91 l0_2 x28_2).f0.f0), .int .i8 ((rd_T91 l0_2 x28_2).f0.f1), .int .i8 ((rd_T91 l0_2 x28_2).f1), .int .i8 ((rd_T91 l0_2 x28_2).f2), .int .i8 ((rd_T91 l0_2 x28_2).f3)]] rfl (by (try simp only [List.map_toArray, List.map_cons, List.map_nil]); first | done | rfl | (simp only [List.length_drop, List.length_take]; rfl)) ?_; (with_reducible refine (impl_ValidPiece.calls ((rd_T91 l0_2 x28_2).f0.f0) ((rd_T91 l0_2 x28_2).f0.f1) ((rd_T91 l0_2 x28_2).f1) ((rd_T91 l0_2 x28_2).f2) ((rd_T91 l0_2 x28_2).f3) false _ A16.out).mono ?_); rintro e w36 ⟨rfl, hb⟩; refine ⟨_, rfl, ?_⟩; have m0_ := Aside0.mk (blk_below (g := gm) (o := .map es ck) (by (repeat (first | (with_reducible refine blk_drewN ?_ _) | (with_reducible refine blk_drew ?_) | (with_reducible refine blk_alloc ?_ _) | (refine mblk_far ?_ NM174.out _))); exact MM.out) hb); clear MM; have MM := m0_; clear m0_; have n_ : _ ∧ _ ∧ _ := ⟨zfb BK170 NB170_174 hb, Aside0.mk (blk_below (g := gb174) (o := .cells #[.int .i8 ((rd_T91 l0_2 x28_2).f0.f0), .int .i8 ((rd_T91 l0_2 x28_2).f0.f1), .int .i8 ((rd_T91 l0_2 x28_2).f1), .int .i8 ((rd_T91 l0_2 x28_2).f2), .int .i8 ((rd_T91 l0_2 x28_2).f3)] 91 (0, 0)) (by (with_reducible repeat (first | refine blk_drewN ?_ _ | refine blk_drew ?_ | refine blk_alloc ?_ _)); refine blk_put (cs := #[.int .i8 ((rd_T91 l0_2 x28_2).f0.f0), .int .i8 ((rd_T91 l0_2 x28_2).f0.f1), .int .i8 ((rd_T91 l0_2 x28_2).f1), .int .i8 ((rd_T91 l0_2 x28_2).f2), .int .i8 0]) ?_ 4 _ rfl; (with_reducible repeat (first | refine blk_drewN ?_ _ | refine blk_drew ?_ | refine blk_alloc ?_ _)); refine blk_put (cs := #[.int .i8 ((rd_T91 l0_2 x28_2).f0.f0), .int .i8 ((rd_T91 l0_2 x28_2).f0.f1), .int .i8 ((rd_T91 l0_2 x28_2).f1), .int .i8 0, .int .i8 0]) ?_ 3 _ rfl; (with_reducible repeat (first | refine blk_drewN ?_ _ | refine blk_drew ?_ | refine blk_alloc ?_ _)); refine blk_put (cs := #[.int .i8 ((rd_T91 l0_2 x28_2).f0.f0), .int .i8 ((rd_T91 l0_2 x28_2).f0.f1), .int .i8 0, .int .i8 0, .int .i8 0]) ?_ 2 _ rfl; (with_reducible repeat (first | refine blk_drewN ?_ _ | refine blk_drew ?_ | refine blk_alloc ?_ _)); refine blk_put (cs := #[.int .i8 ((rd_T91 l0_2 x28_2).f0.f0), .int .i8 0, .int .i8 0, .int .i8 0, .int .i8 0]) ?_ 1 _ rfl; (with_reducible repeat (first | refine blk_drewN ?_ _ | refine blk_drew ?_ | refine blk_alloc ?_ _)); refine blk_put (cs := #[.int .i8 0, .int .i8 0, .int .i8 0, .int .i8 0, .int .i8 0]) ?_ 0 _ rfl; (with_reducible repeat (first | refine blk_drewN ?_ _ | refine blk_drew ?_ | refine blk_alloc ?_ _)); exact BK174.out) hb), zbs hb⟩; clear BK170 BK174 HB; obtain ⟨BK170, BK174, HB⟩ := n_; (try clear hb); (try clear hb2); (try clear hk); (try clear hi)))
  go_ret
  exact ⟨by first | rfl | (simp [errW_none, errW_some] <;> rfl) | (simp [*, errW_none, errW_some] <;> rfl), by repeat (first | (with_reducible first | exact HB.out | apply below_alloc | apply pw_below_drewN | apply below_drew1 | refine below_set ?_ GE170.out | refine below_set ?_ GE174.out) | exact HB.out)⟩
 subst c17
 have H1 : ((impl_Board_has.f [(⟨a0_0, a0_1, l0_2⟩ : S37)] ((rd_T91 l0_2 x28_2).f0.f0) ((rd_T91 l0_2 x28_2).f0.f1)).bind fun t176 => (if t176 = true then (if (mfind x900 ((rd_T91 l0_2 x28_2).f0.f0) ((rd_T91 l0_2 x28_2).f0.f1)).isSome = true then (some false) else (impl_ValidBoard.l0 k2 l0_2 (l0_2.length : Int) (wrap64 (x28_2 + 1)) a0_0 a0_1 l0_2 (x900 ++ [((((rd_T91 l0_2 x28_2).f0.f0), ((rd_T91 l0_2 x28_2).f0.f1)), ())]))) else (some false))) = some r := by rw [if_pos rfl] at H; exact H
 clear H
 have H := H1
 clear H1
 replace H := Option.bind_eq_some_iff.mp H
 obtain ⟨t176, A180, H⟩ := H
 replace H : (if t176 = true then (if (mfind x900 ((rd_T91 l0_2 x28_2).f0.f0) ((rd_T91 l0_2 x28_2).f0.f1)).isSome = true then (some false) else (impl_ValidBoard.l0 k2 l0_2 (l0_2.length : Int) (wrap64 (x28_2 + 1)) a0_0 a0_1 l0_2 (x900 ++ [((((rd_T91 l0_2 x28_2).f0.f0), ((rd_T91 l0_2 x28_2).f0.f1)), ())]))) else (some false)) = some r := H
 have A18 := Aside0.mk A180
 clear A180
 by_cases c19 : t176 = true
 rotate_left
 ·replace c19 := Bool.eq_false_iff.mpr c19
  subst c19
  have H1 : (some false) = some r := by rw [if_neg (show ¬ (false = true) by decide)] at H; exact H
  clear H
  have H := H1
  clear H1
  obtain rfl := Option.some.inj H
  have p173 : 0 ≤ (x28_2 : Int) := of_decide_eq_true (by first | (with_reducible assumption) | assumption)
  have q173 : x28_2 < (l0_2.length : Int) := of_decide_eq_true (by first | (with_reducible assumption) | assumption)
  obtain ⟨ad173, e173, hx173_0, hx173_1, hx173_2, hx173_3, hx173_4⟩ := at_T91 HR0_2.out x28_2 p173 q173
  cases e173
  replace hx173_0 := zc HB hx173_0
  replace hx173_1 := zc HB hx173_1
  replace hx173_2 := zc HB hx173_2
  replace hx173_3 := zc HB hx173_3
  replace hx173_4 := zc HB hx173_4
  replace p173 := eq_true p173
  replace q173 := eq_true q173
  go_wp2_with (first | ((with_reducible refine gate_dst (N := 5) rfl ?_); (try (refine gate_guard (by rfl) ?_; dsimp only)); refine box_event ?hg (N := 5) ?hd (cs := #[.int .i8 0, .int .i8 0, .int .i8 0, .int .i8 0, .int .i8 0]) (t := 91) ?hr ?_; (case hd => rfl); (case hg => rfl); (case hr => first | (go_simp; done) | (go_simp; rfl)); intro gb174 hg w27 hbox hb; have NM174 := Aside0.mk ((by rw [hg]; exact Nat.ne_of_lt (blk_lt (g := gm) (o := .map es ck) (zh MM).out)) : gm ≠ gb174); have m0_ := zk MM hb; clear MM; have MM := m0_; clear m0_; have n_ : _ ∧ _ ∧ _ ∧ _ ∧ _ ∧ _ ∧ _ := ⟨zk BK170 hb, zbs hb, Aside0.mk (hbox), zg HB hg, zg HB hg, zn1 BK170 hg, zn2 BK170 hg⟩; clear BK170 HB; obtain ⟨BK170, HB, BK174, GW174, GE174, NB170_174, NB174_170⟩ := n_; clear hb hbox hg; have hnb28 := NB174_170.out; have hnc28 := NB170_174.out; obtain ⟨z29_0, z29_1, z29_2, z29_3, z29_4, y29_0, y29_1, y29_2, y29_3, y29_4⟩ := zB5 BK174) | ((with_reducible refine gate_callee (f := 108) rfl ?_); refine goesL_ (some 33) rfl rfl Try.func108 (by kernel_rfl) rfl #[.agg #[.int .i8 ((rd_T91 l0_2 x28_2).f0.f0), .int .i8 ((rd_T91 l0_2 x28_2).f0.f1), .int .i8 ((rd_T91 l0_2 x28_2).f1), .int .i8 ((rd_T91 l0_2 x28_2).f2), .int .i8 ((rd_T91 l0_2 x28_2).f3)]] rfl (by (try simp only [List.map_toArray, List.map_cons, List.map_nil]); first | done | rfl | (simp only [List.length_drop, List.length_take]; rfl)) ?_; (with_reducible refine (impl_ValidPiece.calls ((rd_T91 l0_2 x28_2).f0.f0) ((rd_T91 l0_2 x28_2).f0.f1) ((rd_T91 l0_2 x28_2).f1) ((rd_T91 l0_2 x28_2).f2) ((rd_T91 l0_2 x28_2).f3) true _ A16.out).mono ?_); rintro e w30 ⟨rfl, hb⟩; refine ⟨_, rfl, ?_⟩; have m0_ := Aside0.mk (blk_below (g := gm) (o := .map es ck) (by (repeat (first | (with_reducible refine blk_drewN ?_ _) | (with_reducible refine blk_drew ?_) | (with_reducible refine blk_alloc ?_ _) | (refine mblk_far ?_ NM174.out _))); exact MM.out) hb); clear MM; have MM := m0_; clear m0_; have n_ : _ ∧ _ ∧ _ := ⟨zfb BK170 NB170_174 hb, Aside0.mk (blk_below (g := gb174) (o := .cells #[.int .i8 ((rd_T91 l0_2 x28_2).f0.f0), .int .i8 ((rd_T91 l0_2 x28_2).f0.f1), .int .i8 ((rd_T91 l0_2 x28_2).f1), .int .i8 ((rd_T91 l0_2 x28_2).f2), .int .i8 ((rd_T91 l0_2 x28_2).f3)] 91 (0, 0)) (by (with_reducible repeat (first | refine blk_drewN ?_ _ | refine blk_drew ?_ | refine blk_alloc ?_ _)); refine blk_put (cs := #[.int .i8 ((rd_T91 l0_2 x28_2).f0.f0), .int .i8 ((rd_T91 l0_2 x28_2).f0.f1), .int .i8 ((rd_T91 l0_2 x28_2).f1), .int .i8 ((rd_T91 l0_2 x28_2).f2), .int .i8 0]) ?_ 4 _ rfl; (with_reducible repeat (first | refine blk_drewN ?_ _ | refine blk_drew ?_ | refine blk_alloc ?_ _)); refine blk_put (cs := #[.int .i8 ((rd_T91 l0_2 x28_2).f0.f0), .int .i8 ((rd_T91 l0_2 x28_2).f0.f1), .int .i8 ((rd_T91 l0_2 x28_2).f1), .int .i8 0, .int .i8 0]) ?_ 3 _ rfl; (with_reducible repeat (first | refine blk_drewN ?_ _ | refine blk_drew ?_ | refine blk_alloc ?_ _)); refine blk_put (cs := #[.int .i8 ((rd_T91 l0_2 x28_2).f0.f0), .int .i8 ((rd_T91 l0_2 x28_2).f0.f1), .int .i8 0, .int .i8 0, .int .i8 0]) ?_ 2 _ rfl; (with_reducible repeat (first | refine blk_drewN ?_ _ | refine blk_drew ?_ | refine blk_alloc ?_ _)); refine blk_put (cs := #[.int .i8 ((rd_T91 l0_2 x28_2).f0.f0), .int .i8 0, .int .i8 0, .int .i8 0, .int .i8 0]) ?_ 1 _ rfl; (with_reducible repeat (first | refine blk_drewN ?_ _ | refine blk_drew ?_ | refine blk_alloc ?_ _)); refine blk_put (cs := #[.int .i8 0, .int .i8 0, .int .i8 0, .int .i8 0, .int .i8 0]) ?_ 0 _ rfl; (with_reducible repeat (first | refine blk_drewN ?_ _ | refine blk_drew ?_ | refine blk_alloc ?_ _)); exact BK174.out) hb), zbs hb⟩; clear BK170 BK174 HB; obtain ⟨BK170, BK174, HB⟩ := n_; (try clear hb); (try clear hb2); (try clear hk); (try clear hi); obtain ⟨z31_0, z31_1, z31_2, z31_3, z31_4, y31_0, y31_1, y31_2, y31_3, y31_4⟩ := zB5 BK174) | (go_at_call 109; (with_reducible refine (impl_Board_has.calls _ [(⟨a0_0, a0_1, l0_2⟩ : S37)] ((rd_T91 l0_2 x28_2).f0.f0) ((rd_T91 l0_2 x28_2).f0.f1) false _ ?side1 A18.out).mono ?_); (case side1 => refine ro_of_blk (T := 37) (cs := #[.int .i8 a0_0, .int .i8 a0_1, .slice (some ad173) l0_2.length c0_2]) (zh BK170).out ?_; exact k37_mk _ (⟨a0_0, a0_1, l0_2⟩ : S37) (by exact HC0_2.out) (by exact zcc HB HR0_2.out)); rintro e w32 ⟨rfl, hb⟩; have m0_ := zk MM hb; clear MM; have MM := m0_; clear m0_; have n_ : _ ∧ _ ∧ _ := ⟨zk BK170 hb, zk BK174 hb, zbs hb⟩; clear BK170 BK174 HB; obtain ⟨BK170, BK174, HB⟩ := n_; (try clear hb); (try clear hb2); (try clear hk); (try clear hi)))
  go_ret
  exact ⟨by first | rfl | (simp [errW_none, errW_some] <;> rfl) | (simp [*, errW_none, errW_some] <;> rfl), by repeat (first | (with_reducible first | exact HB.out | apply below_alloc | apply pw_below_drewN | apply below_drew1 | refine below_set ?_ GE170.out | refine below_set ?_ GE174.out) | exact HB.out)⟩
 subst c19
 have H1 : (if (mfind x900 ((rd_T91 l0_2 x28_2).f0.f0) ((rd_T91 l0_2 x28_2).f0.f1)).isSome = true then (some false) else (impl_ValidBoard.l0 k2 l0_2 (l0_2.length : Int) (wrap64 (x28_2 + 1)) a0_0 a0_1 l0_2 (x900 ++ [((((rd_T91 l0_2 x28_2).f0.f0), ((rd_T91 l0_2 x28_2).f0.f1)), ())]))) = some r := by rw [if_pos rfl] at H; exact H
 clear H
 have H := H1
 clear H1
 by_cases c21 : (mfind x900 ((rd_T91 l0_2 x28_2).f0.f0) ((rd_T91 l0_2 x28_2).f0.f1)).isSome = true
 ·rw [if_pos c21] at H
  obtain rfl := Option.some.inj H
  have p173 : 0 ≤ (x28_2 : Int) := of_decide_eq_true (by first | (with_reducible assumption) | assumption)
  have q173 : x28_2 < (l0_2.length : Int) := of_decide_eq_true (by first | (with_reducible assumption) | assumption)
  obtain ⟨ad173, e173, hx173_0, hx173_1, hx173_2, hx173_3, hx173_4⟩ := at_T91 HR0_2.out x28_2 p173 q173
  cases e173
  replace hx173_0 := zc HB hx173_0
  replace hx173_1 := zc HB hx173_1
  replace hx173_2 := zc HB hx173_2
  replace hx173_3 := zc HB hx173_3
  replace hx173_4 := zc HB hx173_4
  replace p173 := eq_true p173
  replace q173 := eq_true q173
  have ml : ∀ W : World, W.heap[gm]? = some (.map es ck) → (Instr.lookup 138 (.map (some gm)) (.agg #[.int .i8 ((rd_T91 l0_2 x28_2).f0.f0), .int .i8 ((rd_T91 l0_2 x28_2).f0.f1)]) false).run Try.prog W = .ok (.bool true) W := by
   intro W hW
   refine (run_mlook (V := 4) cellKey Try.underlying138 (zeroBool W) hW MER.out _ _ false).trans ?_
   simp only [Bool.false_eq_true, if_false]; obtain ⟨v_, hv_⟩ := Option.isSome_iff_exists.mp c21; rw [hv_]; rfl
  go_wp2_with (first | ((with_reducible refine gate_dst (N := 5) rfl ?_); (try (refine gate_guard (by rfl) ?_; dsimp only)); refine box_event ?hg (N := 5) ?hd (cs := #[.int .i8 0, .int .i8 0, .int .i8 0, .int .i8 0, .int .i8 0]) (t := 91) ?hr ?_; (case hd => rfl); (case hg => rfl); (case hr => first | (go_simp; done) | (go_simp; rfl)); intro gb174 hg w20 hbox hb; have NM174 := Aside0.mk ((by rw [hg]; exact Nat.ne_of_lt (blk_lt (g := gm) (o := .map es ck) (zh MM).out)) : gm ≠ gb174); have m0_ := zk MM hb; clear MM; have MM := m0_; clear m0_; have n_ : _ ∧ _ ∧ _ ∧ _ ∧ _ ∧ _ ∧ _ := ⟨zk BK170 hb, zbs hb, Aside0.mk (hbox), zg HB hg, zg HB hg, zn1 BK170 hg, zn2 BK170 hg⟩; clear BK170 HB; obtain ⟨BK170, HB, BK174, GW174, GE174, NB170_174, NB174_170⟩ := n_; clear hb hbox hg; have hnb21 := NB174_170.out; have hnc21 := NB170_174.out; obtain ⟨z22_0, z22_1, z22_2, z22_3, z22_4, y22_0, y22_1, y22_2, y22_3, y22_4⟩ := zB5 BK174) | ((with_reducible refine gate_callee (f := 108) rfl ?_); refine goesL_ (some 33) rfl rfl Try.func108 (by kernel_rfl) rfl #[.agg #[.int .i8 ((rd_T91 l0_2 x28_2).f0.f0), .int .i8 ((rd_T91 l0_2 x28_2).f0.f1), .int .i8 ((rd_T91 l0_2 x28_2).f1), .int .i8 ((rd_T91 l0_2 x28_2).f2), .int .i8 ((rd_T91 l0_2 x28_2).f3)]] rfl (by (try simp only [List.map_toArray, List.map_cons, List.map_nil]); first | done | rfl | (simp only [List.length_drop, List.length_take]; rfl)) ?_; (with_reducible refine (impl_ValidPiece.calls ((rd_T91 l0_2 x28_2).f0.f0) ((rd_T91 l0_2 x28_2).f0.f1) ((rd_T91 l0_2 x28_2).f1) ((rd_T91 l0_2 x28_2).f2) ((rd_T91 l0_2 x28_2).f3) true _ A16.out).mono ?_); rintro e w23 ⟨rfl, hb⟩; refine ⟨_, rfl, ?_⟩; have m0_ := Aside0.mk (blk_below (g := gm) (o := .map es ck) (by (repeat (first | (with_reducible refine blk_drewN ?_ _) | (with_reducible refine blk_drew ?_) | (with_reducible refine blk_alloc ?_ _) | (refine mblk_far ?_ NM174.out _))); exact MM.out) hb); clear MM; have MM := m0_; clear m0_; have n_ : _ ∧ _ ∧ _ := ⟨zfb BK170 NB170_174 hb, Aside0.mk (blk_below (g := gb174) (o := .cells #[.int .i8 ((rd_T91 l0_2 x28_2).f0.f0), .int .i8 ((rd_T91 l0_2 x28_2).f0.f1), .int .i8 ((rd_T91 l0_2 x28_2).f1), .int .i8 ((rd_T91 l0_2 x28_2).f2), .int .i8 ((rd_T91 l0_2 x28_2).f3)] 91 (0, 0)) (by (with_reducible repeat (first | refine blk_drewN ?_ _ | refine blk_drew ?_ | refine blk_alloc ?_ _)); refine blk_put (cs := #[.int .i8 ((rd_T91 l0_2 x28_2).f0.f0), .int .i8 ((rd_T91 l0_2 x28_2).f0.f1), .int .i8 ((rd_T91 l0_2 x28_2).f1), .int .i8 ((rd_T91 l0_2 x28_2).f2), .int .i8 0]) ?_ 4 _ rfl; (with_reducible repeat (first | refine blk_drewN ?_ _ | refine blk_drew ?_ | refine blk_alloc ?_ _)); refine blk_put (cs := #[.int .i8 ((rd_T91 l0_2 x28_2).f0.f0), .int .i8 ((rd_T91 l0_2 x28_2).f0.f1), .int .i8 ((rd_T91 l0_2 x28_2).f1), .int .i8 0, .int .i8 0]) ?_ 3 _ rfl; (with_reducible repeat (first | refine blk_drewN ?_ _ | refine blk_drew ?_ | refine blk_alloc ?_ _)); refine blk_put (cs := #[.int .i8 ((rd_T91 l0_2 x28_2).f0.f0), .int .i8 ((rd_T91 l0_2 x28_2).f0.f1), .int .i8 0, .int .i8 0, .int .i8 0]) ?_ 2 _ rfl; (with_reducible repeat (first | refine blk_drewN ?_ _ | refine blk_drew ?_ | refine blk_alloc ?_ _)); refine blk_put (cs := #[.int .i8 ((rd_T91 l0_2 x28_2).f0.f0), .int .i8 0, .int .i8 0, .int .i8 0, .int .i8 0]) ?_ 1 _ rfl; (with_reducible repeat (first | refine blk_drewN ?_ _ | refine blk_drew ?_ | refine blk_alloc ?_ _)); refine blk_put (cs := #[.int .i8 0, .int .i8 0, .int .i8 0, .int .i8 0, .int .i8 0]) ?_ 0 _ rfl; (with_reducible repeat (first | refine blk_drewN ?_ _ | refine blk_drew ?_ | refine blk_alloc ?_ _)); exact BK174.out) hb), zbs hb⟩; clear BK170 BK174 HB; obtain ⟨BK170, BK174, HB⟩ := n_; (try clear hb); (try clear hb2); (try clear hk); (try clear hi); obtain ⟨z24_0, z24_1, z24_2, z24_3, z24_4, y24_0, y24_1, y24_2, y24_3, y24_4⟩ := zB5 BK174) | (go_at_call 109; (with_reducible refine (impl_Board_has.calls _ [(⟨a0_0, a0_1, l0_2⟩ : S37)] ((rd_T91 l0_2 x28_2).f0.f0) ((rd_T91 l0_2 x28_2).f0.f1) true _ ?side1 A18.out).mono ?_); (case side1 => refine ro_of_blk (T := 37) (cs := #[.int .i8 a0_0, .int .i8 a0_1, .slice (some ad173) l0_2.length c0_2]) (zh BK170).out ?_; exact k37_mk _ (⟨a0_0, a0_1, l0_2⟩ : S37) (by exact HC0_2.out) (by exact zcc HB HR0_2.out)); rintro e w25 ⟨rfl, hb⟩; have m0_ := zk MM hb; clear MM; have MM := m0_; clear m0_; have n_ : _ ∧ _ ∧ _ := ⟨zk BK170 hb, zk BK174 hb, zbs hb⟩; clear BK170 BK174 HB; obtain ⟨BK170, BK174, HB⟩ := n_; (try clear hb); (try clear hb2); (try clear hk); (try clear hi); obtain ⟨z26_0, z26_1, z26_2, z26_3, z26_4, y26_0, y26_1, y26_2, y26_3, y26_4⟩ := zB5 BK174) | ((with_reducible refine gate_dst (N := 45) rfl ?_); (try (refine gate_guard (by rfl) ?_; dsimp only)); refine look_event rfl rfl rfl rfl (ml _ (zh MM).out) ?_))
  go_ret
  exact ⟨by first | rfl | (simp [errW_none, errW_some] <;> rfl) | (simp [*, errW_none, errW_some] <;> rfl), by repeat (first | (with_reducible first | exact HB.out | apply below_alloc | apply pw_below_drewN | apply below_drew1 | refine below_set ?_ GE170.out | refine below_set ?_ GE174.out) | exact HB.out)⟩
 rw [if_neg c21] at H
 have H' := Aside0.mk H
 clear H
 have p173 : 0 ≤ (x28_2 : Int) := of_decide_eq_true (by first | (with_reducible assumption) | assumption)
 have q173 : x28_2 < (l0_2.length : Int) := of_decide_eq_true (by first | (with_reducible assumption) | assumption)
 obtain ⟨ad173, e173, hx173_0, hx173_1, hx173_2, hx173_3, hx173_4⟩ := at_T91 HR0_2.out x28_2 p173 q173
 cases e173
 replace hx173_0 := zc HB hx173_0
 replace hx173_1 := zc HB hx173_1
 replace hx173_2 := zc HB hx173_2
 replace hx173_3 := zc HB hx173_3
 replace hx173_4 := zc HB hx173_4
 replace p173 := eq_true p173
 replace q173 := eq_true q173
 have ml : ∀ W : World, W.heap[gm]? = some (.map es ck) → (Instr.lookup 138 (.map (some gm)) (.agg #[.int .i8 ((rd_T91 l0_2 x28_2).f0.f0), .int .i8 ((rd_T91 l0_2 x28_2).f0.f1)]) false).run Try.prog W = .ok (.bool false) W := by
  intro W hW
  refine (run_mlook (V := 4) cellKey Try.underlying138 (zeroBool W) hW MER.out _ _ false).trans ?_
  simp only [Bool.false_eq_true, if_false]; rw [show mfind x900 ((rd_T91 l0_2 x28_2).f0.f0) ((rd_T91 l0_2 x28_2).f0.f1) = none by simpa using c21]; rfl
 have mp : ∀ W : World, W.heap[gm]? = some (.map es ck) → (Instr.mapUpdate 138 (.map (some gm)) (.agg #[.int .i8 ((rd_T91 l0_2 x28_2).f0.f0), .int .i8 ((rd_T91 l0_2 x28_2).f0.f1)]) (.bool true)).run Try.prog W = .ok () (ChangeMaps.setBlock W gm (.map (es.push ⟨ckey ((rd_T91 l0_2 x28_2).f0.f0) ((rd_T91 l0_2 x28_2).f0.f1), .bool true, ck⟩) (ck + 1))) := fun W hW => run_mput (V := 4) (vv := fun _ : Unit => Value.bool true) cellKey Try.underlying138 hW MER.out _ _ (by simpa using c21) ()
 go_wp2_with (first | ((with_reducible refine gate_dst (N := 5) rfl ?_); (try (refine gate_guard (by rfl) ?_; dsimp only)); refine box_event ?hg (N := 5) ?hd (cs := #[.int .i8 0, .int .i8 0, .int .i8 0, .int .i8 0, .int .i8 0]) (t := 91) ?hr ?_; (case hd => rfl); (case hg => rfl); (case hr => first | (go_simp; done) | (go_simp; rfl)); intro gb174 hg w20 hbox hb; have NM174 := Aside0.mk ((by rw [hg]; exact Nat.ne_of_lt (blk_lt (g := gm) (o := .map es ck) (zh MM).out)) : gm ≠ gb174); have m0_ := zk MM hb; clear MM; have MM := m0_; clear m0_; have n_ : _ ∧ _ ∧ _ ∧ _ ∧ _ ∧ _ ∧ _ := ⟨zk BK170 hb, zbs hb, Aside0.mk (hbox), zg HB hg, zg HB hg, zn1 BK170 hg, zn2 BK170 hg⟩; clear BK170 HB; obtain ⟨BK170, HB, BK174, GW174, GE174, NB170_174, NB174_170⟩ := n_; clear hb hbox hg; have hnb21 := NB174_170.out; have hnc21 := NB170_174.out; obtain ⟨z22_0, z22_1, z22_2, z22_3, z22_4, y22_0, y22_1, y22_2, y22_3, y22_4⟩ := zB5 BK174) | ((with_reducible refine gate_callee (f := 108) rfl ?_); refine goesL_ (some 33) rfl rfl Try.func108 (by kernel_rfl) rfl #[.agg #[.int .i8 ((rd_T91 l0_2 x28_2).f0.f0), .int .i8 ((rd_T91 l0_2 x28_2).f0.f1), .int .i8 ((rd_T91 l0_2 x28_2).f1), .int .i8 ((rd_T91 l0_2 x28_2).f2), .int .i8 ((rd_T91 l0_2 x28_2).f3)]] rfl (by (try simp only [List.map_toArray, List.map_cons, List.map_nil]); first | done | rfl | (simp only [List.length_drop, List.length_take]; rfl)) ?_; (with_reducible refine (impl_ValidPiece.calls ((rd_T91 l0_2 x28_2).f0.f0) ((rd_T91 l0_2 x28_2).f0.f1) ((rd_T91 l0_2 x28_2).f1) ((rd_T91 l0_2 x28_2).f2) ((rd_T91 l0_2 x28_2).f3) true _ A16.out).mono ?_); rintro e w23 ⟨rfl, hb⟩; refine ⟨_, rfl, ?_⟩; have m0_ := Aside0.mk (blk_below (g := gm) (o := .map es ck) (by (repeat (first | (with_reducible refine blk_drewN ?_ _) | (with_reducible refine blk_drew ?_) | (with_reducible refine blk_alloc ?_ _) | (refine mblk_far ?_ NM174.out _))); exact MM.out) hb); clear MM; have MM := m0_; clear m0_; have n_ : _ ∧ _ ∧ _ := ⟨zfb BK170 NB170_174 hb, Aside0.mk (blk_below (g := gb174) (o := .cells #[.int .i8 ((rd_T91 l0_2 x28_2).f0.f0), .int .i8 ((rd_T91 l0_2 x28_2).f0.f1), .int .i8 ((rd_T91 l0_2 x28_2).f1), .int .i8 ((rd_T91 l0_2 x28_2).f2), .int .i8 ((rd_T91 l0_2 x28_2).f3)] 91 (0, 0)) (by (with_reducible repeat (first | refine blk_drewN ?_ _ | refine blk_drew ?_ | refine blk_alloc ?_ _)); refine blk_put (cs := #[.int .i8 ((rd_T91 l0_2 x28_2).f0.f0), .int .i8 ((rd_T91 l0_2 x28_2).f0.f1), .int .i8 ((rd_T91 l0_2 x28_2).f1), .int .i8 ((rd_T91 l0_2 x28_2).f2), .int .i8 0]) ?_ 4 _ rfl; (with_reducible repeat (first | refine blk_drewN ?_ _ | refine blk_drew ?_ | refine blk_alloc ?_ _)); refine blk_put (cs := #[.int .i8 ((rd_T91 l0_2 x28_2).f0.f0), .int .i8 ((rd_T91 l0_2 x28_2).f0.f1), .int .i8 ((rd_T91 l0_2 x28_2).f1), .int .i8 0, .int .i8 0]) ?_ 3 _ rfl; (with_reducible repeat (first | refine blk_drewN ?_ _ | refine blk_drew ?_ | refine blk_alloc ?_ _)); refine blk_put (cs := #[.int .i8 ((rd_T91 l0_2 x28_2).f0.f0), .int .i8 ((rd_T91 l0_2 x28_2).f0.f1), .int .i8 0, .int .i8 0, .int .i8 0]) ?_ 2 _ rfl; (with_reducible repeat (first | refine blk_drewN ?_ _ | refine blk_drew ?_ | refine blk_alloc ?_ _)); refine blk_put (cs := #[.int .i8 ((rd_T91 l0_2 x28_2).f0.f0), .int .i8 0, .int .i8 0, .int .i8 0, .int .i8 0]) ?_ 1 _ rfl; (with_reducible repeat (first | refine blk_drewN ?_ _ | refine blk_drew ?_ | refine blk_alloc ?_ _)); refine blk_put (cs := #[.int .i8 0, .int .i8 0, .int .i8 0, .int .i8 0, .int .i8 0]) ?_ 0 _ rfl; (with_reducible repeat (first | refine blk_drewN ?_ _ | refine blk_drew ?_ | refine blk_alloc ?_ _)); exact BK174.out) hb), zbs hb⟩; clear BK170 BK174 HB; obtain ⟨BK170, BK174, HB⟩ := n_; (try clear hb); (try clear hb2); (try clear hk); (try clear hi); obtain ⟨z24_0, z24_1, z24_2, z24_3, z24_4, y24_0, y24_1, y24_2, y24_3, y24_4⟩ := zB5 BK174) | (go_at_call 109; (with_reducible refine (impl_Board_has.calls _ [(⟨a0_0, a0_1, l0_2⟩ : S37)] ((rd_T91 l0_2 x28_2).f0.f0) ((rd_T91 l0_2 x28_2).f0.f1) true _ ?side1 A18.out).mono ?_); (case side1 => refine ro_of_blk (T := 37) (cs := #[.int .i8 a0_0, .int .i8 a0_1, .slice (some ad173) l0_2.length c0_2]) (zh BK170).out ?_; exact k37_mk _ (⟨a0_0, a0_1, l0_2⟩ : S37) (by exact HC0_2.out) (by exact zcc HB HR0_2.out)); rintro e w25 ⟨rfl, hb⟩; have m0_ := zk MM hb; clear MM; have MM := m0_; clear m0_; have n_ : _ ∧ _ ∧ _ := ⟨zk BK170 hb, zk BK174 hb, zbs hb⟩; clear BK170 BK174 HB; obtain ⟨BK170, BK174, HB⟩ := n_; (try clear hb); (try clear hb2); (try clear hk); (try clear hi); obtain ⟨z26_0, z26_1, z26_2, z26_3, z26_4, y26_0, y26_1, y26_2, y26_3, y26_4⟩ := zB5 BK174) | ((with_reducible refine gate_dst (N := 45) rfl ?_); (try (refine gate_guard (by rfl) ?_; dsimp only)); refine look_event rfl rfl rfl rfl (ml _ (zh MM).out) ?_) | (at_mapUpdate; refine put_event rfl rfl rfl rfl rfl (mp _ (zh MM).out) (zh MM).out ?_; intro w60 hm1 hm2 hm3; have n0_ := Aside0.mk ((hm2 gb170 GMB.out).trans (zh BK170).out); have n1_ := Aside0.mk (hm3 w (by repeat (first | (with_reducible first | exact HB.out | apply below_alloc | apply pw_below_drewN | apply below_drew1 | refine below_set ?_ GE170.out | refine below_set ?_ GE174.out) | exact HB.out)) GEM.out); clear BK170; clear BK174; clear HB; clear MM; have BK170 := n0_; have HB := n1_; have MM := Aside0.mk hm1; clear n0_ n1_ hm1 hm2 hm3))
 go_roundg k2
 case measure => have := HJ1.out; have := HK2.out; omega
 case rel => exact ⟨(wrap64 (x28_2 + 1)), (x900 ++ [((((rd_T91 l0_2 x28_2).f0.f0), ((rd_T91 l0_2 x28_2).f0.f1)), ())]), _, _, (by first | rfl | (simp; done) | (simp [*]; done) | (exact congrArg (Value.int .i64) (wrap_eq (by omega)))), H', ⟨by have := HJ1.out; have := HK2.out; omega⟩, zh BK170, zh MM, ⟨ER_push MER.out _ _ _ _⟩, zba⟩
/-! ### impl_Cell_shifted: function 102 -/
def impl_Cell_shifted.f (a0_0 : Int) (a0_1 : Int) (a1 : Int) (a2 : Int) : Option (Int × Int) := some (IntKind.i8.wrap (a0_0 + (IntKind.i8.wrap (a1))), IntKind.i8.wrap (a0_1 + (IntKind.i8.wrap (a2))))
set_option maxHeartbeats 8000000 in
set_option maxRecDepth 100000 in
theorem impl_Cell_shifted.calls (a0_0 : Int) (a0_1 : Int) (a1 : Int) (a2 : Int) (r1 : Int) (r2 : Int) (w : World) (h : impl_Cell_shifted.f a0_0 a0_1 a1 a2 = some (r1, r2)) :
    Calls Try.prog 102 #[.agg #[.int .i8 a0_0, .int .i8 a0_1], .int .i64 a1, .int .i64 a2] w fun e w' => e = .returned (.agg #[.int .i8 r1, .int .i8 r2]) ∧ Below w.heap.size w w' := by
 have hu74 := Try.underlying74
 have HB := Aside0.mk (Below.refl w.heap.size w)
 have H : (some (IntKind.i8.wrap (a0_0 + (IntKind.i8.wrap (a1))), IntKind.i8.wrap (a0_1 + (IntKind.i8.wrap (a2))))) = some (r1, r2) := h
 clear h
 simp only [Option.some.injEq, Prod.mk.injEq] at H
 obtain ⟨rfl, rfl⟩ := H
 go_enter Try.func102, Try.ntmps102
 go_wp2_with (first | ((with_reducible refine gate_dst (N := 3) rfl ?_); refine box_event ?hg (N := 3) ?hd (cs := #[.int .i8 a0_0, .int .i8 a0_1]) (t := 74) ?hr ?_; (case hd => rfl); (case hg => rfl); (case hr => first | (go_simp; done) | (go_simp; rfl)); intro gb220 hg w4 hbox hb; have n_ : _ ∧ _ ∧ _ ∧ _ := ⟨zb HB hb, Aside0.mk (hbox), zg HB hg, zg HB hg⟩; clear HB; obtain ⟨HB, BK220, GW220, GE220⟩ := n_; clear hb hbox hg) | ((with_reducible refine gate_dst (N := 6) rfl ?_); refine box_event ?hg (N := 6) ?hd (cs := #[.int .i8 0, .int .i8 0]) (t := 74) ?hr ?_; (case hd => rfl); (case hg => rfl); (case hr => first | (go_simp; done) | (go_simp; rfl)); intro gb221 hg w5 hbox hb; have n_ : _ ∧ _ ∧ _ ∧ _ ∧ _ ∧ _ ∧ _ := ⟨zk BK220 hb, zbs hb, Aside0.mk (hbox), zg HB hg, zg HB hg, zn1 BK220 hg, zn2 BK220 hg⟩; clear BK220 HB; obtain ⟨BK220, HB, BK221, GW221, GE221, NB220_221, NB221_220⟩ := n_; clear hb hbox hg; have hnb6 := NB220_221.out; have hnc6 := NB221_220.out; obtain ⟨z7_0, z7_1, y7_0, y7_1⟩ := zB2 BK220; obtain ⟨z8_0, z8_1, y8_0, y8_1⟩ := zB2 BK221))
 refine bodyPost_ret (results_cell_row rfl _ _ gb221 74 #[.int .i8 (IntKind.i8.wrap (a0_0 + (IntKind.i8.wrap (a1)))), .int .i8 (IntKind.i8.wrap (a0_1 + (IntKind.i8.wrap (a2))))] (0, 0) _ rfl (by (with_reducible repeat (first | refine blk_drewN ?_ _ | refine blk_drew ?_ | refine blk_alloc ?_ _)); refine blk_put (cs := #[.int .i8 (IntKind.i8.wrap (a0_0 + (IntKind.i8.wrap (a1)))), .int .i8 0]) ?_ 1 _ rfl; (with_reducible repeat (first | refine blk_drewN ?_ _ | refine blk_drew ?_ | refine blk_alloc ?_ _)); refine blk_put (cs := #[.int .i8 0, .int .i8 0]) ?_ 0 _ rfl; (with_reducible repeat (first | refine blk_drewN ?_ _ | refine blk_drew ?_ | refine blk_alloc ?_ _)); exact BK221.out) Try.underlying74 rfl (by kernel_rfl)) rfl ?_
 exact ⟨by first | rfl | (simp [errW_none, errW_some] <;> rfl) | (simp [*, errW_none, errW_some] <;> rfl), by repeat (first | (with_reducible first | exact HB.out | apply below_alloc | apply pw_below_drewN | apply below_drew1 | refine below_set ?_ GE220.out | refine below_set ?_ GE221.out) | exact HB.out)⟩
/-! ### impl_Board_with: function 112 -/
def impl_Board_with.f (l0 : List (S37)) (l1 : List (S91)) : Option (Int × Int) := if 0 < (l0.length : Int) then (some ((rd_T37 l0 0).f0, (rd_T37 l0 0).f1)) else (none)
def impl_Board_with.T1 : Bool × List (List Nat × List Nat) := (true, [([], []), ([0], [0]), ([1], [1]), ([2], [2]), ([], []), ([4], [4]), ([5], [5]), ([6], [6]), ([], []), ([3, 7, 8], [3, 7, 8]), ([9, 0, 1, 2, 3, 4, 5, 6, 7, 8, 9], [9])])
def impl_Board_with.B1 : List Nat := [0, 1, 3, 7, 0, 16, 48, 112, 0, 511, 1023]
theorem impl_Board_with.tab1 : rtab .any (opsOf Try.f112 1) = impl_Board_with.T1 := by kernel_rfl
theorem impl_Board_with.bits1 : waitsOk impl_Board_with.T1.2 impl_Board_with.B1 = true := by kernel_rfl
set_option maxHeartbeats 8000000 in
set_option maxRecDepth 100000 in
theorem impl_Board_with.calls (adp0 : Addr) (l0 : List (S37)) (A1 : Option Addr) (c1 : Nat) (l1 : List (S91)) (r1 : Int) (r2 : Int) (w : World) (hr0 : Kd.C k37 w (some adp0) l0.length l0) (hr1 : Kd.C k91 w A1 l1.length l1) (hc1 : l1.length ≤ c1) (h : impl_Board_with.f l0 l1 = some (r1, r2)) :
    Calls Try.prog 112 #[.pointer (some adp0), .slice A1 l1.length c1] w fun e w' => e = .returned (.agg #[.int .i8 r1, .int .i8 r2, .slice A1 l1.length c1]) ∧ Below w.heap.size w w' := by
 have hu37 := Try.underlying37
 have HR0 := Aside0.mk hr0
 clear hr0 hr1 hc1
 have HB := Aside0.mk (Below.refl w.heap.size w)
 unfold impl_Board_with.f at h
 by_cases c3 : 0 < (l0.length : Int)
 rotate_left
 ·rw [if_neg c3] at h
  exact absurd h (by simp)
 rw [if_pos c3] at h
 have c3b0 : decide (0 < (l0.length : Int)) = true := decide_eq_true c3
 have c3b1 : decide (0 < l0.length) = true := decide_eq_true (by omega)
 simp only [Option.some.injEq, Prod.mk.injEq] at h
 obtain ⟨rfl, rfl⟩ := h
 obtain ⟨ad9, A9, c9, e9, hx9_0, hx9_1, hx9_2, hl9, hi9⟩ := at_T37 HR0.out 0 (by omega) c3
 obtain rfl : adp0 = ad9 := (by injection e9)
 clear e9 hl9 hi9 c3
 (try rw [show ((0 : Int)).toNat = 0 from rfl] at hx9_0)
 (try rw [show 0 * 3 = 0 from rfl] at hx9_0)
 (try rw [Addr.add_zero'] at hx9_0)
 (try rw [show ((0 : Int)).toNat = 0 from rfl] at hx9_1)
 (try rw [show 0 * 3 = 0 from rfl] at hx9_1)
 (try rw [Addr.add_zero'] at hx9_1)
 (try rw [show ((0 : Int)).toNat = 0 from rfl] at hx9_2)
 (try rw [show 0 * 3 = 0 from rfl] at hx9_2)
 (try rw [Addr.add_zero'] at hx9_2)
 go_enter Try.func112, Try.ntmps112
 go_wp2_with (first | ((with_reducible refine gate_dst (N := 4) rfl ?_); refine box_event ?hg (N := 4) ?hd (cs := #[.int .i8 0, .int .i8 0, .slice none 0 0]) (t := 37) ?hr ?_; (case hd => rfl); (case hg => rfl); (case hr => first | (go_simp; done) | (go_simp; rfl)); intro gb9 hg w4 hbox hb; have BK9 := Aside0.mk hbox; have GE9 := Aside0.mk ((by rw [hg]; exact Nat.le_refl _) : w.heap.size ≤ gb9); clear hbox hg HB; have HB := Aside0.mk hb; clear hb; replace hx9_0 := zc HB hx9_0; replace hx9_1 := zc HB hx9_1; clear hx9_2))
 have B7 : Aside0 (w4.drew.heap[gb9]? = some (.cells #[.int .i8 0, .int .i8 0, .slice none 0 0] 37 (0, 0))) := ⟨blk_drew BK9.out⟩
 have HB7 : Aside0 (Below w.heap.size w w4.drew) := ⟨below_drew1 HB.out⟩
 refine start_ (n := 11) (S := fun w' => w'.cell? adp0 = some (.int .i8 ((rd_T37 l0 0).f0)) ∧ w'.cell? ⟨adp0.block, adp0.off + 1, none⟩ = some (.int .i8 ((rd_T37 l0 0).f1))) (ds := [10]) (zq 11 0) (by kernel_rfl) rfl rfl ⟨hx9_0, hx9_1⟩ (fun hHeld => ?_); refine with_tabW impl_Board_with.tab1 impl_Board_with.bits1 (fun HT_ HW_ => ?_)
 clear BK9 HB hx9_0 hx9_1
 generalize w4.drew = w5 at B7 HB7 hHeld ⊢
 have BK9 := B7
 have HB := HB7
 clear B7 HB7
 refine zpu 0 (some 5) (zq 11 1) HT_ ?_
 refine zpu 1 (some 6) (zq 11 3) HT_ ?_
 refine zpu 2 (some 7) (zq 11 7) HT_ ?_
 refine zpu 4 (some 9) (zq 11 23) HT_ ?_
 refine zpu 5 (some 10) (zq 11 55) HT_ ?_
 refine zpu 6 (some 11) (zq 11 119) HT_ ?_
 refine zpu 8 (some 13) (zq 11 375) HT_ ?_
 refine ztk 3 (some 8) (zq 11 383) HT_ HW_ rfl hHeld (Or.inl ⟨by rfl, by (rintro w' ⟨s0, s1⟩; go_simp; with_reducible rfl)⟩) ?_
 refine ztk 7 (some 12) (zq 11 511) HT_ HW_ rfl hHeld (Or.inl ⟨by rfl, by (rintro w' ⟨s0, s1⟩; go_simp; with_reducible rfl)⟩) ?_
 refine zpu 9 (some 14) (zq 11 1023) HT_ ?_
 have hcz_0 : w5.cell? ⟨gb9, 0, none⟩ = some (.int .i8 0) := (blk_cell BK9.out 0).trans rfl
 have hfz_0 := blk_frozen BK9.out 0
 have hcz_1 : w5.cell? ⟨gb9, 1, none⟩ = some (.int .i8 0) := (blk_cell BK9.out 1).trans rfl
 have hfz_1 := blk_frozen BK9.out 1
 have hcz_2 : w5.cell? ⟨gb9, 2, none⟩ = some (.slice none 0 0) := (blk_cell BK9.out 2).trans rfl
 have hfz_2 := blk_frozen BK9.out 2
 refine last_ (i := 10) (N := none) (zq 11 2047) rfl rfl (one_of HT_.out (by kernel_rfl)) (by decide) (fun K hK => ?_)
 refine skip_ (w1 := ?_) (by rfl) rfl ?_ ?_
 rotate_left
 ·go_simp
  rfl
 refine hK.out _ _ ?_
 clear hK K
 refine done_ (done_of HT_.out (by kernel_rfl)) ?_
 clear hHeld HT_ HW_
 try go_wp2_with (first | fail)
 refine bodyPost_ret (results_cell_row rfl _ _ gb9 37 #[.int .i8 ((rd_T37 l0 0).f0), .int .i8 ((rd_T37 l0 0).f1), .slice A1 l1.length c1] (0, 0) _ rfl (by (with_reducible repeat (first | refine blk_drewN ?_ _ | refine blk_drew ?_ | refine blk_alloc ?_ _)); refine blk_put (cs := #[.int .i8 ((rd_T37 l0 0).f0), .int .i8 ((rd_T37 l0 0).f1), .slice none 0 0]) ?_ 2 _ rfl; (with_reducible repeat (first | refine blk_drewN ?_ _ | refine blk_drew ?_ | refine blk_alloc ?_ _)); refine blk_put (cs := #[.int .i8 ((rd_T37 l0 0).f0), .int .i8 0, .slice none 0 0]) ?_ 1 _ rfl; (with_reducible repeat (first | refine blk_drewN ?_ _ | refine blk_drew ?_ | refine blk_alloc ?_ _)); refine blk_put (cs := #[.int .i8 0, .int .i8 0, .slice none 0 0]) ?_ 0 _ rfl; (with_reducible repeat (first | refine blk_drewN ?_ _ | refine blk_drew ?_ | refine blk_alloc ?_ _)); exact BK9.out) Try.underlying37 rfl (by kernel_rfl)) rfl ?_
 exact ⟨rfl, by repeat (first | (with_reducible first | exact HB.out | apply below_alloc | apply pw_below_drewN | apply below_drew1 | refine below_set ?_ GE9.out) | exact HB.out)⟩
/-! ### impl_Piece: function 113 -/
def impl_Piece.f (l0 : List (S91)) : Option ((List (S91))) := (some (([] : List (S91)) : List (S91))).bind fun y222 => (if y222.length + l0.length < 28147497671065 then (some (y222 ++ l0)) else (none))
set_option maxHeartbeats 8000000 in
set_option maxRecDepth 100000 in
theorem impl_Piece.calls (A0 : Option Addr) (c0 : Nat) (l0 : List (S91)) (r : List (S91)) (w : World) (hr0 : Kd.C k91 w A0 l0.length l0) (hc0 : l0.length ≤ c0) (h : impl_Piece.f l0 = some r) :
    Calls Try.prog 113 #[.slice A0 l0.length c0] w fun e w' => ∃ v0_ : Value, e = .returned (v0_) ∧ Kd.R k91 91 w' w.heap.size (fun _ => True) v0_ r ∧ Below w.heap.size w w' := by
 rcases A0 with _ | ad0
 ·have hl : l0 = [] := List.eq_nil_iff_length_eq_zero.2 (by rcases Nat.eq_zero_or_pos l0.length with h0 | h0; exact h0; obtain ⟨ad, e, _⟩ := hr0.2.2 h0; cases e)
  subst hl
  obtain rfl : r = [] := by simpa [impl_Piece.f] using h.symm
  have hn_ := fun W : World => Lib.run_eql_slice_nil W 35 _ none 0 c0 0 0 Try.underlying35
  go_enter Try.func113, Try.ntmps113
  go_wp2
  go_ret
  exact ⟨_, rfl, Kd.R_nil _ _ _ _ _, Below.refl _ _⟩
 have hn_ := fun W : World => Lib.run_eql_slice_nil W 35 _ (some ad0) l0.length c0 0 0 Try.underlying35
 have HR0 := Aside0.mk hr0
 have HC0 := Aside0.mk hc0
 clear hr0 hc0
 have HB := Aside0.mk (Below.refl w.heap.size w)
 have H : ((some (([] : List (S91)) : List (S91))).bind fun y222 => (if y222.length + l0.length < 28147497671065 then (some (y222 ++ l0)) else (none))) = some r := h
 clear h
 obtain ⟨y222, hy222⟩ : ∃ y_ : List (S91), y_ = (([] : List (S91))) := ⟨_, rfl⟩
 replace H : (if y222.length + l0.length < 28147497671065 then (some (y222 ++ l0)) else (none)) = some r := by first | (rw [hy222]; with_reducible exact H) | (have H2_ := (Option.bind_some _ _).symm.trans H; rw [hy222]; with_reducible exact H2_) | (have H2_ := (Option.bind_some _ _).symm.trans H; with_reducible exact H2_) | with_reducible exact H | (rw [hy222]; exact H) | exact H
 have Ny222 := Aside0.mk hy222
 clear hy222
 by_cases c2 : y222.length + l0.length < 28147497671065
 rotate_left
 ·rw [if_neg c2] at H
  exact absurd H (by simp)
 rw [if_pos c2] at H
 have LMc2 := Aside0.mk c2
 clear c2
 obtain ⟨y225, hy225⟩ : ∃ y_ : List (S91), y_ = (y222 ++ l0) := ⟨_, rfl⟩
 replace H : (some y225) = some r := by first | (rw [hy225]; with_reducible exact H) | (have H2_ := (Option.bind_some _ _).symm.trans H; rw [hy225]; with_reducible exact H2_) | (have H2_ := (Option.bind_some _ _).symm.trans H; with_reducible exact H2_) | with_reducible exact H | (rw [hy225]; exact H) | exact H
 have Ny225 := Aside0.mk hy225
 clear hy225
 obtain rfl := Option.some.inj H
 go_enter Try.func113, Try.ntmps113
 go_wp2_with (first | ((with_reducible refine gate_dst (N := 5) rfl ?_); refine Kd.R_lit k91 _ 91 ?hg (N := 5) ?hd (xs := ([] : List (S91))) (inner := []) (ok := fun _ => True) (okp := fun _ => True) ?hr ?hp (fun _ hk => hk) trivial (Below.refl _ _) (Nat.le_refl _) (by simp) ?_; (case hd => rfl); (case hg => rfl); (case hr => first | (go_simp; done) | (go_simp; rfl)); (case hp => exact (Reps.none _ _)); intro v223 w3 ho4 hb hg_ hnew_; clear hg_ hnew_; (first | rw [← Ny222.out] at ho4 | (simp only [Int.reduceToNat] at ho4; rw [← Ny222.out] at ho4)); have n_ : _ ∧ _ := ⟨Aside0.mk (Kd.R_lower ho4 (zz HB)), zb HB hb⟩; clear HB; obtain ⟨HO224, HB⟩ := n_; clear hb ho4) | ((with_reducible refine gate_builtin (b := .append) (xs := #[.tmp 5, .tmp 6]) rfl ?_); at_builtin; refine Kd.R_append_rows k91 (w0 := w) w.heap.size rfl (.tmp 5) (.tmp 6) 35 91 (.agg #[(.int .i8 0), (.int .i8 0), (.int .i8 0), (.int .i8 0), (.int .i8 0)]) 5 rfl Try.underlying35 info91 rfl (by decide) (by omega) v223 y222 l0 _ _ _ (fun _ => True) (fun _ => False) rfl rfl ?aO ?aR (fun _ _ h => h) (fun _ h => h.elim) ?aF ?aB ?aS ?aL ?_; (case aR => exact zcc HB HR0.out); (case aB => exact (zl HB).out); (case aF => exact (fun _ _ => trivial)); (case aO => exact (ze HO224).out); (case aS => exact (zz HB)); (case aL => have := LMc2.out; omega); intro v226 w5 ho hb hg hat; rw [← Ny225.out] at ho; have n_ : _ ∧ _ := ⟨Aside0.mk (hb), Aside0.mk (ho)⟩; clear HB HO224; obtain ⟨HB, HO227⟩ := n_; clear ho hb hg hat))
 go_ret
 exact ⟨_, by first | rfl | (simp [errW_none, errW_some] <;> rfl) | (simp [*, errW_none, errW_some] <;> rfl), by (with_reducible repeat (first | apply Kd.R_alloc | apply Kd.R_drewN | apply Kd.R_drew)); exact HO227.out, by repeat (first | (with_reducible first | exact HB.out | apply below_alloc | apply pw_below_drewN | apply below_drew1) | exact HB.out)⟩
/-! ### impl_MoveBoard: function 63 -/
def impl_MoveBoard.l0 : Nat → Int → Int → Int → Int → Int → Int → List (S91) → Int → Int → List (S91) → Option (Int × Int × (List (S91)) × Int)
  | 0, _, _, _, _, _, _, _, _, _, _ => none
  | k + 1, x1, x2, x32, x33, x223000, x223001, x223002, x236000, x236001, x236002 => if x33 < x32 then (if 0 ≤ x33 then (if x33 < (x236002.length : Int) then ((impl_Cell_shifted.f ((rd_T91 x236002 x33).f0.f0) ((rd_T91 x236002 x33).f0.f1) x1 x2).bind fun bt238 => ((some (x236002.set (x33 : Int).toNat (⟨(⟨bt238.1, bt238.2⟩ : S74), (rd_T91 x236002 x33).f1, (rd_T91 x236002 x33).f2, (rd_T91 x236002 x33).f3⟩ : S91) : List (S91))).bind fun y240 => ((impl_Board_has.f [(⟨x223000, x223001, x223002⟩ : S37)] ((rd_T91 y240 x33).f0.f0) ((rd_T91 y240 x33).f0.f1)).bind fun t242 => (if t242 = true then (impl_MoveBoard.l0 k x1 x2 x32 (wrap64 (x33 + 1)) x223000 x223001 x223002 x236000 x236001 y240) else (some (0, 0, ([] : List (S91)), 4)))))) else (none)) else (none)) else (some (x236000, x236001, x236002, 0))
def impl_MoveBoard.f (k : Nat) (a0_0 : Int) (a0_1 : Int) (l0_2 : List (S91)) (a1 : Int) (a2 : Int) : Option (Int × Int × (List (S91)) × Int) := (impl_ValidBoard.f k a0_0 a0_1 l0_2).bind fun t224 => (if t224 = true then ((impl_in.f a1 (-24) 24).bind fun t225 => (if t225 = true then ((impl_in.f a2 (-24) 24).bind fun t226 => (if t226 = true then ((impl_Piece.f l0_2).bind fun t227 => ((impl_Board_with.f [(⟨a0_0, a0_1, l0_2⟩ : S37)] t227).bind fun bt230 => (impl_MoveBoard.l0 k a1 a2 (t227.length : Int) 0 a0_0 a0_1 l0_2 bt230.1 bt230.2 t227))) else (some (0, 0, ([] : List (S91)), 2)))) else (some (0, 0, ([] : List (S91)), 2)))) else (some (0, 0, ([] : List (S91)), 1)))
theorem impl_MoveBoard.mono_l : ∀ k, (∀ y0 y1 y2 y3 y4 y5 y6 y7 y8 y9, LeO (impl_MoveBoard.l0 k y0 y1 y2 y3 y4 y5 y6 y7 y8 y9) (impl_MoveBoard.l0 (k + 1) y0 y1 y2 y3 y4 y5 y6 y7 y8 y9))
  | 0 => fun _ _ _ _ _ _ _ _ _ _ r h => by simp [impl_MoveBoard.l0] at h
  | k + 1 => by
    have ih0 := impl_MoveBoard.mono_l k
    · intro y0 y1 y2 y3 y4 y5 y6 y7 y8 y9
      unfold impl_MoveBoard.l0
      repeat' first | (with_reducible first | apply ih0 | apply impl_ValidBoard.mono | exact LeO.refl _ | exact LeO.none _ | refine LeO.ite ?_ ?_ | refine LeO.bind ?_ (fun _ => ?_)) | apply ih0 | apply impl_ValidBoard.mono | exact LeO.none _ | refine LeO.ite ?_ ?_ | refine LeO.bind ?_ (fun _ => ?_)
theorem impl_MoveBoard.mono : ∀ a0 a1 a2 a3 a4 k, LeO (impl_MoveBoard.f k a0 a1 a2 a3 a4) (impl_MoveBoard.f (k + 1) a0 a1 a2 a3 a4) := by
 intro a0 a1 a2 a3 a4 k
 have ih0 := impl_MoveBoard.mono_l k
 unfold impl_MoveBoard.f
 repeat' first | (with_reducible first | apply ih0 | apply impl_ValidBoard.mono | exact LeO.refl _ | exact LeO.none _ | refine LeO.ite ?_ ?_ | refine LeO.bind ?_ (fun _ => ?_)) | apply ih0 | apply impl_ValidBoard.mono | exact LeO.none _ | refine LeO.ite ?_ ?_ | refine LeO.bind ?_ (fun _ => ?_)
set_option maxHeartbeats 8000000 in
set_option maxRecDepth 100000 in
theorem impl_MoveBoard.calls (k : Nat) (a0_0 : Int) (a0_1 : Int) (A0_2 : Option Addr) (c0_2 : Nat) (l0_2 : List (S91)) (a1 : Int) (a2 : Int) (r1 : Int) (r2 : Int) (r3 : List (S91)) (r4 : Int) (w : World) (hr0_2 : Kd.C k91 w A0_2 l0_2.length l0_2) (hc0_2 : l0_2.length ≤ c0_2) (h : impl_MoveBoard.f k a0_0 a0_1 l0_2 a1 a2 = some (r1, r2, r3, r4)) :
    Calls Try.prog 63 #[.agg #[.int .i8 a0_0, .int .i8 a0_1, .slice A0_2 l0_2.length c0_2], .int .i64 a1, .int .i64 a2] w fun e w' => ∃ v2_ : Value, e = .returned (.tuple #[.agg #[.int .i8 r1, .int .i8 r2, v2_], .int .i64 r4]) ∧ Kd.R k91 91 w' w.heap.size (fun _ => True) v2_ r3 ∧ Below w.heap.size w w' := by
 have hu37 := Try.underlying37
 have hu74 := Try.underlying74
 have HR0_2 := Aside0.mk hr0_2
 have HC0_2 := Aside0.mk hc0_2
 clear hr0_2 hc0_2
 have HB := Aside0.mk (Below.refl w.heap.size w)
 have H : ((impl_ValidBoard.f k a0_0 a0_1 l0_2).bind fun t224 => (if t224 = true then ((impl_in.f a1 (-24) 24).bind fun t225 => (if t225 = true then ((impl_in.f a2 (-24) 24).bind fun t226 => (if t226 = true then ((impl_Piece.f l0_2).bind fun t227 => ((impl_Board_with.f [(⟨a0_0, a0_1, l0_2⟩ : S37)] t227).bind fun bt230 => (impl_MoveBoard.l0 k a1 a2 (t227.length : Int) 0 a0_0 a0_1 l0_2 bt230.1 bt230.2 t227))) else (some (0, 0, ([] : List (S91)), 2)))) else (some (0, 0, ([] : List (S91)), 2)))) else (some (0, 0, ([] : List (S91)), 1)))) = some (r1, r2, r3, r4) := h
 clear h
 replace H := Option.bind_eq_some_iff.mp H
 obtain ⟨t224, A40, H⟩ := H
 replace H : (if t224 = true then ((impl_in.f a1 (-24) 24).bind fun t225 => (if t225 = true then ((impl_in.f a2 (-24) 24).bind fun t226 => (if t226 = true then ((impl_Piece.f l0_2).bind fun t227 => ((impl_Board_with.f [(⟨a0_0, a0_1, l0_2⟩ : S37)] t227).bind fun bt230 => (impl_MoveBoard.l0 k a1 a2 (t227.length : Int) 0 a0_0 a0_1 l0_2 bt230.1 bt230.2 t227))) else (some (0, 0, ([] : List (S91)), 2)))) else (some (0, 0, ([] : List (S91)), 2)))) else (some (0, 0, ([] : List (S91)), 1))) = some (r1, r2, r3, r4) := H
 have A4 := Aside0.mk A40
 clear A40
 by_cases c5 : t224 = true
 rotate_left
 ·replace c5 := Bool.eq_false_iff.mpr c5
  subst c5
  have H1 : (some (0, 0, ([] : List (S91)), 1)) = some (r1, r2, r3, r4) := by rw [if_neg (show ¬ (false = true) by decide)] at H; exact H
  clear H
  have H := H1
  clear H1
  simp only [Option.some.injEq, Prod.mk.injEq] at H
  obtain ⟨rfl, rfl, rfl, rfl⟩ := H
  go_enter Try.func63, Try.ntmps63
  go_wp2_with (first | ((with_reducible refine gate_dst (N := 3) rfl ?_); refine box_event ?hg (N := 3) ?hd (cs := #[.int .i8 a0_0, .int .i8 a0_1, .slice A0_2 l0_2.length c0_2]) (t := 37) ?hr ?_; (case hd => rfl); (case hg => rfl); (case hr => first | (go_simp; done) | (go_simp; rfl)); intro gb222 hg w68 hbox hb; have n_ : _ ∧ _ ∧ _ ∧ _ := ⟨zb HB hb, Aside0.mk (hbox), zg HB hg, zg HB hg⟩; clear HB; obtain ⟨HB, BK222, GW222, GE222⟩ := n_; clear hb hbox hg) | ((with_reducible refine gate_dst (N := 6) rfl ?_); refine box_event ?hg (N := 6) ?hd (cs := #[.int .i8 0, .int .i8 0, .slice none 0 0]) (t := 37) ?hr ?_; (case hd => rfl); (case hg => rfl); (case hr => first | (go_simp; done) | (go_simp; rfl)); intro gb223 hg w69 hbox hb; have n_ : _ ∧ _ ∧ _ ∧ _ ∧ _ ∧ _ ∧ _ := ⟨zk BK222 hb, zbs hb, Aside0.mk (hbox), zg HB hg, zg HB hg, zn1 BK222 hg, zn2 BK222 hg⟩; clear BK222 HB; obtain ⟨BK222, HB, BK223, GW223, GE223, NB222_223, NB223_222⟩ := n_; clear hb hbox hg; have hnb70 := NB222_223.out; have hnc70 := NB223_222.out; obtain ⟨z71_0, z71_1, z71_2, y71_0, y71_1, y71_2⟩ := zB3 BK222) | ((with_reducible refine gate_callee (f := 43) rfl ?_); refine goesL_ (some 13) rfl rfl Try.func43 (by kernel_rfl) rfl #[.agg #[.int .i8 a0_0, .int .i8 a0_1, .slice A0_2 l0_2.length c0_2]] rfl (by (try simp only [List.map_toArray, List.map_cons, List.map_nil]); first | done | rfl | (simp only [List.length_drop, List.length_take]; rfl)) ?_; (with_reducible refine (impl_ValidBoard.calls k a0_0 a0_1 _ _ l0_2 false _ ?side1 ?side2 A4.out).mono ?_); (case side1 => exact zcc HB HR0_2.out); (case side2 => exact HC0_2.out); rintro e w72 ⟨rfl, hb⟩; refine ⟨_, rfl, ?_⟩; have n_ : _ ∧ _ ∧ _ := ⟨zk BK222 hb, zk BK223 hb, zbs hb⟩; clear BK222 BK223 HB; obtain ⟨BK222, BK223, HB⟩ := n_; (try clear hb); (try clear hb2); (try clear hk); (try clear hi); obtain ⟨z73_0, z73_1, z73_2, y73_0, y73_1, y73_2⟩ := zB3 BK223))
  refine bodyPost_ret (results_ct rfl _ _ gb223 37 #[.int .i8 0, .int .i8 0, .slice none 0 0] (0, 0) _ rfl (by (with_reducible repeat (first | refine blk_drewN ?_ _ | refine blk_drew ?_ | refine blk_alloc ?_ _)); refine blk_put (cs := #[.int .i8 0, .int .i8 0, .slice none 0 0]) ?_ 2 _ rfl; (with_reducible repeat (first | refine blk_drewN ?_ _ | refine blk_drew ?_ | refine blk_alloc ?_ _)); refine blk_put (cs := #[.int .i8 0, .int .i8 0, .slice none 0 0]) ?_ 1 _ rfl; (with_reducible repeat (first | refine blk_drewN ?_ _ | refine blk_drew ?_ | refine blk_alloc ?_ _)); refine blk_put (cs := #[.int .i8 0, .int .i8 0, .slice none 0 0]) ?_ 0 _ rfl; (with_reducible repeat (first | refine blk_drewN ?_ _ | refine blk_drew ?_ | refine blk_alloc ?_ _)); exact BK223.out) Try.underlying37 rfl (by kernel_rfl)) rfl ?_
  exact ⟨_, by first | rfl | (simp [errW_none, errW_some] <;> rfl) | (simp [*, errW_none, errW_some] <;> rfl), by first | exact Kd.R_nil _ _ _ _ _ | exact Kd.N_nil _ _ _ _ _ | exact Kd.V_nil _ _ _ _ _ | exact Kd.Q_nil _ _ _ _ _ | exact Kd.S_nil _ _ _ _ _, by repeat (first | (with_reducible first | exact HB.out | apply below_alloc | apply pw_below_drewN | apply below_drew1 | refine below_set ?_ GE222.out | refine below_set ?_ GE223.out) | exact HB.out)⟩
 subst c5
 have H1 : ((impl_in.f a1 (-24) 24).bind fun t225 => (if t225 = true then ((impl_in.f a2 (-24) 24).bind fun t226 => (if t226 = true then ((impl_Piece.f l0_2).bind fun t227 => ((impl_Board_with.f [(⟨a0_0, a0_1, l0_2⟩ : S37)] t227).bind fun bt230 => (impl_MoveBoard.l0 k a1 a2 (t227.length : Int) 0 a0_0 a0_1 l0_2 bt230.1 bt230.2 t227))) else (some (0, 0, ([] : List (S91)), 2)))) else (some (0, 0, ([] : List (S91)), 2)))) = some (r1, r2, r3, r4) := by rw [if_pos rfl] at H; exact H
 clear H
 have H := H1
 clear H1
 replace H := Option.bind_eq_some_iff.mp H
 obtain ⟨t225, A60, H⟩ := H
 replace H : (if t225 = true then ((impl_in.f a2 (-24) 24).bind fun t226 => (if t226 = true then ((impl_Piece.f l0_2).bind fun t227 => ((impl_Board_with.f [(⟨a0_0, a0_1, l0_2⟩ : S37)] t227).bind fun bt230 => (impl_MoveBoard.l0 k a1 a2 (t227.length : Int) 0 a0_0 a0_1 l0_2 bt230.1 bt230.2 t227))) else (some (0, 0, ([] : List (S91)), 2)))) else (some (0, 0, ([] : List (S91)), 2))) = some (r1, r2, r3, r4) := H
 have A6 := Aside0.mk A60
 clear A60
 by_cases c7 : t225 = true
 rotate_left
 ·replace c7 := Bool.eq_false_iff.mpr c7
  subst c7
  have H1 : (some (0, 0, ([] : List (S91)), 2)) = some (r1, r2, r3, r4) := by rw [if_neg (show ¬ (false = true) by decide)] at H; exact H
  clear H
  have H := H1
  clear H1
  simp only [Option.some.injEq, Prod.mk.injEq] at H
  obtain ⟨rfl, rfl, rfl, rfl⟩ := H
  go_enter Try.func63, Try.ntmps63
  go_wp2_with (first | ((with_reducible refine gate_dst (N := 3) rfl ?_); refine box_event ?hg (N := 3) ?hd (cs := #[.int .i8 a0_0, .int .i8 a0_1, .slice A0_2 l0_2.length c0_2]) (t := 37) ?hr ?_; (case hd => rfl); (case hg => rfl); (case hr => first | (go_simp; done) | (go_simp; rfl)); intro gb222 hg w62 hbox hb; have n_ : _ ∧ _ ∧ _ ∧ _ := ⟨zb HB hb, Aside0.mk (hbox), zg HB hg, zg HB hg⟩; clear HB; obtain ⟨HB, BK222, GW222, GE222⟩ := n_; clear hb hbox hg) | ((with_reducible refine gate_dst (N := 6) rfl ?_); refine box_event ?hg (N := 6) ?hd (cs := #[.int .i8 0, .int .i8 0, .slice none 0 0]) (t := 37) ?hr ?_; (case hd => rfl); (case hg => rfl); (case hr => first | (go_simp; done) | (go_simp; rfl)); intro gb223 hg w63 hbox hb; have n_ : _ ∧ _ ∧ _ ∧ _ ∧ _ ∧ _ ∧ _ := ⟨zk BK222 hb, zbs hb, Aside0.mk (hbox), zg HB hg, zg HB hg, zn1 BK222 hg, zn2 BK222 hg⟩; clear BK222 HB; obtain ⟨BK222, HB, BK223, GW223, GE223, NB222_223, NB223_222⟩ := n_; clear hb hbox hg; have hnb64 := NB222_223.out; have hnc64 := NB223_222.out; obtain ⟨z65_0, z65_1, z65_2, y65_0, y65_1, y65_2⟩ := zB3 BK222) | ((with_reducible refine gate_callee (f := 43) rfl ?_); refine goesL_ (some 13) rfl rfl Try.func43 (by kernel_rfl) rfl #[.agg #[.int .i8 a0_0, .int .i8 a0_1, .slice A0_2 l0_2.length c0_2]] rfl (by (try simp only [List.map_toArray, List.map_cons, List.map_nil]); first | done | rfl | (simp only [List.length_drop, List.length_take]; rfl)) ?_; (with_reducible refine (impl_ValidBoard.calls k a0_0 a0_1 _ _ l0_2 true _ ?side1 ?side2 A4.out).mono ?_); (case side1 => exact zcc HB HR0_2.out); (case side2 => exact HC0_2.out); rintro e w66 ⟨rfl, hb⟩; refine ⟨_, rfl, ?_⟩; have n_ : _ ∧ _ ∧ _ := ⟨zk BK222 hb, zk BK223 hb, zbs hb⟩; clear BK222 BK223 HB; obtain ⟨BK222, BK223, HB⟩ := n_; (try clear hb); (try clear hb2); (try clear hk); (try clear hi)) | ((with_reducible refine gate_callee (f := 98) rfl ?_); refine goesL_ (some 18) rfl rfl Try.func98 (by kernel_rfl) rfl #[.int .i64 a1, .int .i64 (-24), .int .i64 24] rfl (by (try simp only [List.map_toArray, List.map_cons, List.map_nil]); first | done | rfl | (simp only [List.length_drop, List.length_take]; rfl)) ?_; (with_reducible refine (impl_in.calls a1 (-24) 24 false _ A6.out).mono ?_); rintro e w' ⟨rfl, ⟨nd, rfl⟩⟩; refine ⟨_, rfl, ?_⟩; (try (rw [drewN_self w66]; generalize hq_ : World.drewN w66 _ = w66; have n0_ : Aside0 (w66.heap[gb222]? = some (.cells #[.int .i8 a0_0, .int .i8 a0_1, .slice A0_2 l0_2.length c0_2] 37 (0, 0))) := ⟨by rw [← hq_]; exact (zh BK222).out⟩; have n1_ : Aside0 (w66.heap[gb223]? = some (.cells #[.int .i8 0, .int .i8 0, .slice none 0 0] 37 (0, 0))) := ⟨by rw [← hq_]; exact (zh BK223).out⟩; have n2_ : Aside0 (Below w.heap.size w w66) := ⟨by rw [← hq_]; exact (by repeat (first | (with_reducible first | exact HB.out | apply below_alloc | apply pw_below_drewN | apply below_drew1 | refine below_set ?_ GE222.out | refine below_set ?_ GE223.out) | exact HB.out))⟩; clear BK222 BK223 HB hq_; have BK222 := n0_; have BK223 := n1_; have HB := n2_; clear n0_ n1_ n2_)); obtain ⟨z67_0, z67_1, z67_2, y67_0, y67_1, y67_2⟩ := zB3 BK223))
  refine bodyPost_ret (results_ct rfl _ _ gb223 37 #[.int .i8 0, .int .i8 0, .slice none 0 0] (0, 0) _ rfl (by (with_reducible repeat (first | refine blk_drewN ?_ _ | refine blk_drew ?_ | refine blk_alloc ?_ _)); refine blk_put (cs := #[.int .i8 0, .int .i8 0, .slice none 0 0]) ?_ 2 _ rfl; (with_reducible repeat (first | refine blk_drewN ?_ _ | refine blk_drew ?_ | refine blk_alloc ?_ _)); refine blk_put (cs := #[.int .i8 0, .int .i8 0, .slice none 0 0]) ?_ 1 _ rfl; (with_reducible repeat (first | refine blk_drewN ?_ _ | refine blk_drew ?_ | refine blk_alloc ?_ _)); refine blk_put (cs := #[.int .i8 0, .int .i8 0, .slice none 0 0]) ?_ 0 _ rfl; (with_reducible repeat (first | refine blk_drewN ?_ _ | refine blk_drew ?_ | refine blk_alloc ?_ _)); exact BK223.out) Try.underlying37 rfl (by kernel_rfl)) rfl ?_
  exact ⟨_, by first | rfl | (simp [errW_none, errW_some] <;> rfl) | (simp [*, errW_none, errW_some] <;> rfl), by first | exact Kd.R_nil _ _ _ _ _ | exact Kd.N_nil _ _ _ _ _ | exact Kd.V_nil _ _ _ _ _ | exact Kd.Q_nil _ _ _ _ _ | exact Kd.S_nil _ _ _ _ _, by repeat (first | (with_reducible first | exact HB.out | apply below_alloc | apply pw_below_drewN | apply below_drew1 | refine below_set ?_ GE222.out | refine below_set ?_ GE223.out) | exact HB.out)⟩
 subst c7
 have H1 : ((impl_in.f a2 (-24) 24).bind fun t226 => (if t226 = true then ((impl_Piece.f l0_2).bind fun t227 => ((impl_Board_with.f [(⟨a0_0, a0_1, l0_2⟩ : S37)] t227).bind fun bt230 => (impl_MoveBoard.l0 k a1 a2 (t227.length : Int) 0 a0_0 a0_1 l0_2 bt230.1 bt230.2 t227))) else (some (0, 0, ([] : List (S91)), 2)))) = some (r1, r2, r3, r4) := by rw [if_pos rfl] at H; exact H
 clear H
 have H := H1
 clear H1
 replace H := Option.bind_eq_some_iff.mp H
 obtain ⟨t226, A80, H⟩ := H
 replace H : (if t226 = true then ((impl_Piece.f l0_2).bind fun t227 => ((impl_Board_with.f [(⟨a0_0, a0_1, l0_2⟩ : S37)] t227).bind fun bt230 => (impl_MoveBoard.l0 k a1 a2 (t227.length : Int) 0 a0_0 a0_1 l0_2 bt230.1 bt230.2 t227))) else (some (0, 0, ([] : List (S91)), 2))) = some (r1, r2, r3, r4) := H
 have A8 := Aside0.mk A80
 clear A80
 by_cases c9 : t226 = true
 rotate_left
 ·replace c9 := Bool.eq_false_iff.mpr c9
  subst c9
  have H1 : (some (0, 0, ([] : List (S91)), 2)) = some (r1, r2, r3, r4) := by rw [if_neg (show ¬ (false = true) by decide)] at H; exact H
  clear H
  have H := H1
  clear H1
  simp only [Option.some.injEq, Prod.mk.injEq] at H
  obtain ⟨rfl, rfl, rfl, rfl⟩ := H
  go_enter Try.func63, Try.ntmps63
  go_wp2_with (first | ((with_reducible refine gate_dst (N := 3) rfl ?_); refine box_event ?hg (N := 3) ?hd (cs := #[.int .i8 a0_0, .int .i8 a0_1, .slice A0_2 l0_2.length c0_2]) (t := 37) ?hr ?_; (case hd => rfl); (case hg => rfl); (case hr => first | (go_simp; done) | (go_simp; rfl)); intro gb222 hg w56 hbox hb; have n_ : _ ∧ _ ∧ _ ∧ _ := ⟨zb HB hb, Aside0.mk (hbox), zg HB hg, zg HB hg⟩; clear HB; obtain ⟨HB, BK222, GW222, GE222⟩ := n_; clear hb hbox hg) | ((with_reducible refine gate_dst (N := 6) rfl ?_); refine box_event ?hg (N := 6) ?hd (cs := #[.int .i8 0, .int .i8 0, .slice none 0 0]) (t := 37) ?hr ?_; (case hd => rfl); (case hg => rfl); (case hr => first | (go_simp; done) | (go_simp; rfl)); intro gb223 hg w57 hbox hb; have n_ : _ ∧ _ ∧ _ ∧ _ ∧ _ ∧ _ ∧ _ := ⟨zk BK222 hb, zbs hb, Aside0.mk (hbox), zg HB hg, zg HB hg, zn1 BK222 hg, zn2 BK222 hg⟩; clear BK222 HB; obtain ⟨BK222, HB, BK223, GW223, GE223, NB222_223, NB223_222⟩ := n_; clear hb hbox hg; have hnb58 := NB222_223.out; have hnc58 := NB223_222.out; obtain ⟨z59_0, z59_1, z59_2, y59_0, y59_1, y59_2⟩ := zB3 BK222) | ((with_reducible refine gate_callee (f := 43) rfl ?_); refine goesL_ (some 13) rfl rfl Try.func43 (by kernel_rfl) rfl #[.agg #[.int .i8 a0_0, .int .i8 a0_1, .slice A0_2 l0_2.length c0_2]] rfl (by (try simp only [List.map_toArray, List.map_cons, List.map_nil]); first | done | rfl | (simp only [List.length_drop, List.length_take]; rfl)) ?_; (with_reducible refine (impl_ValidBoard.calls k a0_0 a0_1 _ _ l0_2 true _ ?side1 ?side2 A4.out).mono ?_); (case side1 => exact zcc HB HR0_2.out); (case side2 => exact HC0_2.out); rintro e w60 ⟨rfl, hb⟩; refine ⟨_, rfl, ?_⟩; have n_ : _ ∧ _ ∧ _ := ⟨zk BK222 hb, zk BK223 hb, zbs hb⟩; clear BK222 BK223 HB; obtain ⟨BK222, BK223, HB⟩ := n_; (try clear hb); (try clear hb2); (try clear hk); (try clear hi)) | ((with_reducible refine gate_callee (f := 98) rfl ?_); refine goesL_ (some 18) rfl rfl Try.func98 (by kernel_rfl) rfl #[.int .i64 a1, .int .i64 (-24), .int .i64 24] rfl (by (try simp only [List.map_toArray, List.map_cons, List.map_nil]); first | done | rfl | (simp only [List.length_drop, List.length_take]; rfl)) ?_; (with_reducible refine (impl_in.calls a1 (-24) 24 true _ A6.out).mono ?_); rintro e w' ⟨rfl, ⟨nd, rfl⟩⟩; refine ⟨_, rfl, ?_⟩; (try (rw [drewN_self w60]; generalize hq_ : World.drewN w60 _ = w60; have n0_ : Aside0 (w60.heap[gb222]? = some (.cells #[.int .i8 a0_0, .int .i8 a0_1, .slice A0_2 l0_2.length c0_2] 37 (0, 0))) := ⟨by rw [← hq_]; exact (zh BK222).out⟩; have n1_ : Aside0 (w60.heap[gb223]? = some (.cells #[.int .i8 0, .int .i8 0, .slice none 0 0] 37 (0, 0))) := ⟨by rw [← hq_]; exact (zh BK223).out⟩; have n2_ : Aside0 (Below w.heap.size w w60) := ⟨by rw [← hq_]; exact (by repeat (first | (with_reducible first | exact HB.out | apply below_alloc | apply pw_below_drewN | apply below_drew1 | refine below_set ?_ GE222.out | refine below_set ?_ GE223.out) | exact HB.out))⟩; clear BK222 BK223 HB hq_; have BK222 := n0_; have BK223 := n1_; have HB := n2_; clear n0_ n1_ n2_))) | (go_at_call 98; (with_reducible refine (impl_in.calls a2 (-24) 24 false _ A8.out).mono ?_); rintro e w' ⟨rfl, ⟨nd, rfl⟩⟩; (try (rw [drewN_self w60]; generalize hq_ : World.drewN w60 _ = w60; have n0_ : Aside0 (w60.heap[gb222]? = some (.cells #[.int .i8 a0_0, .int .i8 a0_1, .slice A0_2 l0_2.length c0_2] 37 (0, 0))) := ⟨by rw [← hq_]; exact (zh BK222).out⟩; have n1_ : Aside0 (w60.heap[gb223]? = some (.cells #[.int .i8 0, .int .i8 0, .slice none 0 0] 37 (0, 0))) := ⟨by rw [← hq_]; exact (zh BK223).out⟩; have n2_ : Aside0 (Below w.heap.size w w60) := ⟨by rw [← hq_]; exact (by repeat (first | (with_reducible first | exact HB.out | apply below_alloc | apply pw_below_drewN | apply below_drew1 | refine below_set ?_ GE222.out | refine below_set ?_ GE223.out) | exact HB.out))⟩; clear BK222 BK223 HB hq_; have BK222 := n0_; have BK223 := n1_; have HB := n2_; clear n0_ n1_ n2_)); obtain ⟨z61_0, z61_1, z61_2, y61_0, y61_1, y61_2⟩ := zB3 BK223))
  refine bodyPost_ret (results_ct rfl _ _ gb223 37 #[.int .i8 0, .int .i8 0, .slice none 0 0] (0, 0) _ rfl (by (with_reducible repeat (first | refine blk_drewN ?_ _ | refine blk_drew ?_ | refine blk_alloc ?_ _)); refine blk_put (cs := #[.int .i8 0, .int .i8 0, .slice none 0 0]) ?_ 2 _ rfl; (with_reducible repeat (first | refine blk_drewN ?_ _ | refine blk_drew ?_ | refine blk_alloc ?_ _)); refine blk_put (cs := #[.int .i8 0, .int .i8 0, .slice none 0 0]) ?_ 1 _ rfl; (with_reducible repeat (first | refine blk_drewN ?_ _ | refine blk_drew ?_ | refine blk_alloc ?_ _)); refine blk_put (cs := #[.int .i8 0, .int .i8 0, .slice none 0 0]) ?_ 0 _ rfl; (with_reducible repeat (first | refine blk_drewN ?_ _ | refine blk_drew ?_ | refine blk_alloc ?_ _)); exact BK223.out) Try.underlying37 rfl (by kernel_rfl)) rfl ?_
  exact ⟨_, by first | rfl | (simp [errW_none, errW_some] <;> rfl) | (simp [*, errW_none, errW_some] <;> rfl), by first | exact Kd.R_nil _ _ _ _ _ | exact Kd.N_nil _ _ _ _ _ | exact Kd.V_nil _ _ _ _ _ | exact Kd.Q_nil _ _ _ _ _ | exact Kd.S_nil _ _ _ _ _, by repeat (first | (with_reducible first | exact HB.out | apply below_alloc | apply pw_below_drewN | apply below_drew1 | refine below_set ?_ GE222.out | refine below_set ?_ GE223.out) | exact HB.out)⟩
 subst c9
 have H1 : ((impl_Piece.f l0_2).bind fun t227 => ((impl_Board_with.f [(⟨a0_0, a0_1, l0_2⟩ : S37)] t227).bind fun bt230 => (impl_MoveBoard.l0 k a1 a2 (t227.length : Int) 0 a0_0 a0_1 l0_2 bt230.1 bt230.2 t227))) = some (r1, r2, r3, r4) := by rw [if_pos rfl] at H; exact H
 clear H
 have H := H1
 clear H1
 replace H := Option.bind_eq_some_iff.mp H
 obtain ⟨t227, A100, H⟩ := H
 replace H : ((impl_Board_with.f [(⟨a0_0, a0_1, l0_2⟩ : S37)] t227).bind fun bt230 => (impl_MoveBoard.l0 k a1 a2 (t227.length : Int) 0 a0_0 a0_1 l0_2 bt230.1 bt230.2 t227)) = some (r1, r2, r3, r4) := H
 have A10 := Aside0.mk A100
 clear A100
 replace H := Option.bind_eq_some_iff.mp H
 obtain ⟨⟨t230, t231⟩, A110, H⟩ := H
 replace H : (impl_MoveBoard.l0 k a1 a2 (t227.length : Int) 0 a0_0 a0_1 l0_2 t230 t231 t227) = some (r1, r2, r3, r4) := H
 have A11 := Aside0.mk A110
 clear A110
 have H' := Aside0.mk H
 clear H
 go_enter Try.func63, Try.ntmps63
 go_wp2_with (first | ((with_reducible refine gate_dst (N := 3) rfl ?_); refine box_event ?hg (N := 3) ?hd (cs := #[.int .i8 a0_0, .int .i8 a0_1, .slice A0_2 l0_2.length c0_2]) (t := 37) ?hr ?_; (case hd => rfl); (case hg => rfl); (case hr => first | (go_simp; done) | (go_simp; rfl)); intro gb222 hg w12 hbox hb; have n_ : _ ∧ _ ∧ _ ∧ _ := ⟨zb HB hb, Aside0.mk (hbox), zg HB hg, zg HB hg⟩; clear HB; obtain ⟨HB, BK222, GW222, GE222⟩ := n_; clear hb hbox hg) | ((with_reducible refine gate_dst (N := 6) rfl ?_); refine box_event ?hg (N := 6) ?hd (cs := #[.int .i8 0, .int .i8 0, .slice none 0 0]) (t := 37) ?hr ?_; (case hd => rfl); (case hg => rfl); (case hr => first | (go_simp; done) | (go_simp; rfl)); intro gb223 hg w13 hbox hb; have n_ : _ ∧ _ ∧ _ ∧ _ ∧ _ ∧ _ ∧ _ := ⟨zk BK222 hb, zbs hb, Aside0.mk (hbox), zg HB hg, zg HB hg, zn1 BK222 hg, zn2 BK222 hg⟩; clear BK222 HB; obtain ⟨BK222, HB, BK223, GW223, GE223, NB222_223, NB223_222⟩ := n_; clear hb hbox hg; have hnb14 := NB222_223.out; have hnc14 := NB223_222.out; obtain ⟨z15_0, z15_1, z15_2, y15_0, y15_1, y15_2⟩ := zB3 BK222) | ((with_reducible refine gate_callee (f := 43) rfl ?_); refine goesL_ (some 13) rfl rfl Try.func43 (by kernel_rfl) rfl #[.agg #[.int .i8 a0_0, .int .i8 a0_1, .slice A0_2 l0_2.length c0_2]] rfl (by (try simp only [List.map_toArray, List.map_cons, List.map_nil]); first | done | rfl | (simp only [List.length_drop, List.length_take]; rfl)) ?_; (with_reducible refine (impl_ValidBoard.calls k a0_0 a0_1 _ _ l0_2 true _ ?side1 ?side2 A4.out).mono ?_); (case side1 => exact zcc HB HR0_2.out); (case side2 => exact HC0_2.out); rintro e w16 ⟨rfl, hb⟩; refine ⟨_, rfl, ?_⟩; have n_ : _ ∧ _ ∧ _ := ⟨zk BK222 hb, zk BK223 hb, zbs hb⟩; clear BK222 BK223 HB; obtain ⟨BK222, BK223, HB⟩ := n_; (try clear hb); (try clear hb2); (try clear hk); (try clear hi)) | ((with_reducible refine gate_callee (f := 98) rfl ?_); refine goesL_ (some 18) rfl rfl Try.func98 (by kernel_rfl) rfl #[.int .i64 a1, .int .i64 (-24), .int .i64 24] rfl (by (try simp only [List.map_toArray, List.map_cons, List.map_nil]); first | done | rfl | (simp only [List.length_drop, List.length_take]; rfl)) ?_; (with_reducible refine (impl_in.calls a1 (-24) 24 true _ A6.out).mono ?_); rintro e w' ⟨rfl, ⟨nd, rfl⟩⟩; refine ⟨_, rfl, ?_⟩; (try (rw [drewN_self w16]; generalize hq_ : World.drewN w16 _ = w16; have n0_ : Aside0 (w16.heap[gb222]? = some (.cells #[.int .i8 a0_0, .int .i8 a0_1, .slice A0_2 l0_2.length c0_2] 37 (0, 0))) := ⟨by rw [← hq_]; exact (zh BK222).out⟩; have n1_ : Aside0 (w16.heap[gb223]? = some (.cells #[.int .i8 0, .int .i8 0, .slice none 0 0] 37 (0, 0))) := ⟨by rw [← hq_]; exact (zh BK223).out⟩; have n2_ : Aside0 (Below w.heap.size w w16) := ⟨by rw [← hq_]; exact (by repeat (first | (with_reducible first | exact HB.out | apply below_alloc | apply pw_below_drewN | apply below_drew1 | refine below_set ?_ GE222.out | refine below_set ?_ GE223.out) | exact HB.out))⟩; clear BK222 BK223 HB hq_; have BK222 := n0_; have BK223 := n1_; have HB := n2_; clear n0_ n1_ n2_))) | (go_at_call 98; (with_reducible refine (impl_in.calls a2 (-24) 24 true _ A8.out).mono ?_); rintro e w' ⟨rfl, ⟨nd, rfl⟩⟩; (try (rw [drewN_self w16]; generalize hq_ : World.drewN w16 _ = w16; have n0_ : Aside0 (w16.heap[gb222]? = some (.cells #[.int .i8 a0_0, .int .i8 a0_1, .slice A0_2 l0_2.length c0_2] 37 (0, 0))) := ⟨by rw [← hq_]; exact (zh BK222).out⟩; have n1_ : Aside0 (w16.heap[gb223]? = some (.cells #[.int .i8 0, .int .i8 0, .slice none 0 0] 37 (0, 0))) := ⟨by rw [← hq_]; exact (zh BK223).out⟩; have n2_ : Aside0 (Below w.heap.size w w16) := ⟨by rw [← hq_]; exact (by repeat (first | (with_reducible first | exact HB.out | apply below_alloc | apply pw_below_drewN | apply below_drew1 | refine below_set ?_ GE222.out | refine below_set ?_ GE223.out) | exact HB.out))⟩; clear BK222 BK223 HB hq_; have BK222 := n0_; have BK223 := n1_; have HB := n2_; clear n0_ n1_ n2_)); obtain ⟨z17_0, z17_1, z17_2, y17_0, y17_1, y17_2⟩ := zB3 BK222) | ((with_reducible refine gate_callee (f := 113) rfl ?_); refine goesL_ (some 28) rfl rfl Try.func113 (by kernel_rfl) rfl #[.slice A0_2 l0_2.length c0_2] rfl (by (try simp only [List.map_toArray, List.map_cons, List.map_nil]); first | done | rfl | (simp only [List.length_drop, List.length_take]; rfl)) ?_; (with_reducible refine (impl_Piece.calls _ _ l0_2 t227 _ ?side1 ?side2 A10.out).mono ?_); (case side1 => exact zcc HB HR0_2.out); (case side2 => exact HC0_2.out); rintro e w18 ⟨v228, rfl, ho0, hb⟩; refine ⟨_, rfl, ?_⟩; have n_ : _ ∧ _ ∧ _ ∧ _ := ⟨Aside0.mk (Kd.R_lower ho0 (zz HB)), zk BK222 hb, zk BK223 hb, zbs hb⟩; clear BK222 BK223 HB; obtain ⟨HO229, BK222, BK223, HB⟩ := n_; (try clear hb); (try clear hb2); (try clear hk); (try clear hi); (try clear ho0); obtain ⟨Ao19, co19, eo19⟩ := Kd.R_slice HO229.out; subst eo19) | ((with_reducible refine gate_callee (f := 112) rfl ?_); refine goesL_ (some 29) rfl rfl Try.func112 (by kernel_rfl) rfl #[.pointer (some ⟨gb222, 0, none⟩), .slice Ao19 t227.length co19] rfl (by (try simp only [List.map_toArray, List.map_cons, List.map_nil]); first | done | rfl | (simp only [List.length_drop, List.length_take]; rfl)) ?_; (with_reducible refine (impl_Board_with.calls _ [(⟨a0_0, a0_1, l0_2⟩ : S37)] _ _ t227 t230 t231 _ ?side1 ?side2 ?side3 A11.out).mono ?_); (case side1 => refine ro_of_blk (T := 37) (cs := #[.int .i8 a0_0, .int .i8 a0_1, .slice A0_2 l0_2.length c0_2]) (zh BK222).out ?_; exact k37_mk _ (⟨a0_0, a0_1, l0_2⟩ : S37) (by exact HC0_2.out) (by exact zcc HB HR0_2.out)); (case side2 => exact zrc HO229); (case side3 => exact (Kd.R_reads' HO229.out).2.1); rintro e w20 ⟨rfl, hb⟩; refine ⟨_, rfl, ?_⟩; have n_ : _ ∧ _ ∧ _ ∧ _ := ⟨zr HO229 hb, zk BK222 hb, zk BK223 hb, zbs hb⟩; clear HO229 BK222 BK223 HB; obtain ⟨HO229, BK222, BK223, HB⟩ := n_; (try clear hb); (try clear hb2); (try clear hk); (try clear hi)) | ((with_reducible refine gate_dst (N := 8) rfl ?_); refine box_event ?hg (N := 8) ?hd (cs := #[.int .i8 0, .int .i8 0, .slice none 0 0]) (t := 37) ?hr ?_; (case hd => rfl); (case hg => rfl); (case hr => first | (go_simp; done) | (go_simp; rfl)); intro gb235 hg w21 hbox hb; have n_ : _ ∧ _ ∧ _ ∧ _ ∧ _ ∧ _ ∧ _ ∧ _ ∧ _ ∧ _ ∧ _ := ⟨zr HO229 hb, zk BK222 hb, zk BK223 hb, zbs hb, Aside0.mk (hbox), zg HB hg, zg HB hg, zn1 BK222 hg, zn2 BK222 hg, zn1 BK223 hg, zn2 BK223 hg⟩; clear HO229 BK222 BK223 HB; obtain ⟨HO229, BK222, BK223, HB, BK235, GW235, GE235, NB222_235, NB235_222, NB223_235, NB235_223⟩ := n_; clear hb hbox hg; have hnb22 := NB235_222.out; have hnc22 := NB222_235.out; have hnb23 := NB235_223.out; have hnc23 := NB223_235.out; obtain ⟨z24_0, z24_1, z24_2, y24_0, y24_1, y24_2⟩ := zB3 BK235))
 go_loopg [33] k (fun kq v33 w' => ∃ (x33_1 : Int) (x224000_1 : Int) (x224001_1 : Int) (x236002_1 : List (S91)) (u236002 : Value), v33 = .int .i64 x33_1 ∧ Aside0 (impl_MoveBoard.l0 kq a1 a2 (t227.length : Int) x33_1 a0_0 a0_1 l0_2 t230 t231 x236002_1 = some (r1, r2, r3, r4)) ∧ Aside0 (kq ≤ k) ∧ Aside0 (Kd.R k91 91 w' w.heap.size (fun _ => True) u236002 x236002_1) ∧ Aside0 (w'.heap[gb222]? = some (.cells #[.int .i8 a0_0, .int .i8 a0_1, (.slice A0_2 l0_2.length c0_2)] 37 (0, 0))) ∧ Aside0 (w'.heap[gb223]? = some (.cells #[.int .i8 x224000_1, .int .i8 x224001_1, (.slice none 0 0)] 37 (0, 0))) ∧ Aside0 (w'.heap[gb235]? = some (.cells #[.int .i8 t230, .int .i8 t231, u236002] 37 (0, 0))) ∧ Aside0 (Below w.heap.size w w'))
 case atStart => exact ⟨(0), (0), (0), (t227), (.slice Ao19 t227.length co19), (by first | rfl | (simp; done) | (simp [*]; done) | (exact congrArg (Value.int .i64) (wrap_eq (by omega)))), H', ⟨Nat.le_refl _⟩, ⟨by (with_reducible repeat (first | apply Kd.R_alloc | apply Kd.R_drewN | apply Kd.R_drew)); exact Kd.R_mono (Kd.R_far (p := ⟨gb235, 2, none⟩) (Kd.R_far (p := ⟨gb235, 1, none⟩) (Kd.R_far (p := ⟨gb235, 0, none⟩) (Kd.R_types HO229.out BK235.out (by decide)) (fun _ hk => hk.2) (.int .i8 t230)) (fun _ hk => hk.2) (.int .i8 t231)) (fun _ hk => hk.2) (.slice Ao19 t227.length co19)) (fun _ hk => trivial)⟩, zf BK222 NB222_235, zf BK223 NB223_235, ⟨by (with_reducible repeat (first | refine blk_drewN ?_ _ | refine blk_drew ?_ | refine blk_alloc ?_ _)); refine blk_put (cs := #[.int .i8 t230, .int .i8 t231, .slice none 0 0]) ?_ 2 _ rfl; (with_reducible repeat (first | refine blk_drewN ?_ _ | refine blk_drew ?_ | refine blk_alloc ?_ _)); refine blk_put (cs := #[.int .i8 t230, .int .i8 0, .slice none 0 0]) ?_ 1 _ rfl; (with_reducible repeat (first | refine blk_drewN ?_ _ | refine blk_drew ?_ | refine blk_alloc ?_ _)); refine blk_put (cs := #[.int .i8 0, .int .i8 0, .slice none 0 0]) ?_ 0 _ rfl; (with_reducible repeat (first | refine blk_drewN ?_ _ | refine blk_drew ?_ | refine blk_alloc ?_ _)); exact BK235.out⟩, zba⟩
 clear H'
 try clear c1
 try clear c2
 try clear p2
 try clear c4
 try clear c5
 try clear c6
 try clear c7
 try clear c9
 try clear c11
 try clear c14
 try clear c22
 try clear c23
 try clear z15_0 z15_1 z15_2
 try clear z17_0 z17_1 z17_2
 try clear z24_0 z24_1 z24_2
 try clear y15_0
 try clear y15_1
 try clear y15_2
 try clear y17_0
 try clear y17_1
 try clear y17_2
 try clear y24_0
 try clear y24_1
 try clear y24_2
 obtain ⟨x33_1, x224000_1, x224001_1, x236002_1, u236002, rfl, HA, HK1, HO_236002, BK222, BK223, BK235, HB⟩ := hrel
 cases gk with
 | zero => exact absurd HA.out (by simp [impl_MoveBoard.l0])
 | succ k1 => ?_
 have H := HA.out
 clear HA
 simp only [impl_MoveBoard.l0] at H
 by_cases c25 : x33_1 < (t227.length : Int)
 rotate_left
 ·rw [if_neg c25] at H
  have c25b0 : decide (x33_1 < (t227.length : Int)) = false := decide_eq_false c25
  clear c25
  simp only [Option.some.injEq, Prod.mk.injEq] at H
  obtain ⟨rfl, rfl, rfl, rfl⟩ := H
  have hnb50 := NB235_222.out
  have hnc50 := NB222_235.out
  have hnb51 := NB235_223.out
  have hnc51 := NB223_235.out
  obtain ⟨z52_0, z52_1, z52_2, y52_0, y52_1, y52_2⟩ := zB3 BK235
  have hnb53 := NB223_222.out
  have hnc53 := NB222_223.out
  obtain ⟨z54_0, z54_1, z54_2, y54_0, y54_1, y54_2⟩ := zB3 BK223
  obtain ⟨Ao55, co55, eo55⟩ := Kd.R_slice HO_236002.out
  subst eo55
  go_wp2
  refine bodyPost_ret (results_ct rfl _ _ gb223 37 #[.int .i8 t230, .int .i8 t231, .slice Ao55 x236002_1.length co55] (0, 0) _ rfl (by (with_reducible repeat (first | refine blk_drewN ?_ _ | refine blk_drew ?_ | refine blk_alloc ?_ _)); refine blk_put (cs := #[.int .i8 t230, .int .i8 t231, .slice none 0 0]) ?_ 2 _ rfl; (with_reducible repeat (first | refine blk_drewN ?_ _ | refine blk_drew ?_ | refine blk_alloc ?_ _)); refine blk_put (cs := #[.int .i8 t230, .int .i8 x224001_1, .slice none 0 0]) ?_ 1 _ rfl; (with_reducible repeat (first | refine blk_drewN ?_ _ | refine blk_drew ?_ | refine blk_alloc ?_ _)); refine blk_put (cs := #[.int .i8 x224000_1, .int .i8 x224001_1, .slice none 0 0]) ?_ 0 _ rfl; (with_reducible repeat (first | refine blk_drewN ?_ _ | refine blk_drew ?_ | refine blk_alloc ?_ _)); exact BK223.out) Try.underlying37 rfl (by kernel_rfl)) rfl ?_
  exact ⟨_, by first | rfl | (simp [errW_none, errW_some] <;> rfl) | (simp [*, errW_none, errW_some] <;> rfl), by (with_reducible repeat (first | apply Kd.R_alloc | apply Kd.R_drewN | apply Kd.R_drew)); exact Kd.R_mono (Kd.R_far (p := ⟨gb223, 2, none⟩) (Kd.R_far (p := ⟨gb223, 1, none⟩) (Kd.R_far (p := ⟨gb223, 0, none⟩) (Kd.R_types HO_236002.out BK223.out (by decide)) (fun _ hk => hk.2) (.int .i8 t230)) (fun _ hk => hk.2) (.int .i8 t231)) (fun _ hk => hk.2) (.slice Ao55 x236002_1.length co55)) (fun _ hk => trivial), by repeat (first | (with_reducible first | exact HB.out | apply below_alloc | apply pw_below_drewN | apply below_drew1 | refine below_set ?_ GE222.out | refine below_set ?_ GE223.out | refine below_set ?_ GE235.out) | exact HB.out)⟩
 rw [if_pos c25] at H
 have c25b0 : decide (x33_1 < (t227.length : Int)) = true := decide_eq_true c25
 clear c25
 by_cases c26 : 0 ≤ x33_1
 rotate_left
 ·rw [if_neg c26] at H
  exact absurd H (by simp)
 rw [if_pos c26] at H
 have c26b0 : decide (0 ≤ x33_1) = true := decide_eq_true c26
 clear c26
 by_cases c27 : x33_1 < (x236002_1.length : Int)
 rotate_left
 ·rw [if_neg c27] at H
  exact absurd H (by simp)
 rw [if_pos c27] at H
 have c27b0 : decide (x33_1 < (x236002_1.length : Int)) = true := decide_eq_true c27
 clear c27
 replace H := Option.bind_eq_some_iff.mp H
 obtain ⟨⟨t238, t239⟩, A280, H⟩ := H
 replace H : ((some (x236002_1.set (x33_1 : Int).toNat (⟨(⟨t238, t239⟩ : S74), (rd_T91 x236002_1 x33_1).f1, (rd_T91 x236002_1 x33_1).f2, (rd_T91 x236002_1 x33_1).f3⟩ : S91) : List (S91))).bind fun y240 => ((impl_Board_has.f [(⟨a0_0, a0_1, l0_2⟩ : S37)] ((rd_T91 y240 x33_1).f0.f0) ((rd_T91 y240 x33_1).f0.f1)).bind fun t242 => (if t242 = true then (impl_MoveBoard.l0 k1 a1 a2 (t227.length : Int) (wrap64 (x33_1 + 1)) a0_0 a0_1 l0_2 t230 t231 y240) else (some (0, 0, ([] : List (S91)), 4))))) = some (r1, r2, r3, r4) := H
 have A28 := Aside0.mk A280
 clear A280
 obtain ⟨y240, hy240⟩ : ∃ y_ : List (S91), y_ = (x236002_1.set (x33_1 : Int).toNat (⟨(⟨t238, t239⟩ : S74), (rd_T91 x236002_1 x33_1).f1, (rd_T91 x236002_1 x33_1).f2, (rd_T91 x236002_1 x33_1).f3⟩ : S91)) := ⟨_, rfl⟩
 replace H : ((impl_Board_has.f [(⟨a0_0, a0_1, l0_2⟩ : S37)] ((rd_T91 y240 x33_1).f0.f0) ((rd_T91 y240 x33_1).f0.f1)).bind fun t242 => (if t242 = true then (impl_MoveBoard.l0 k1 a1 a2 (t227.length : Int) (wrap64 (x33_1 + 1)) a0_0 a0_1 l0_2 t230 t231 y240) else (some (0, 0, ([] : List (S91)), 4)))) = some (r1, r2, r3, r4) := by first | (rw [hy240]; with_reducible exact H) | (have H2_ := (Option.bind_some _ _).symm.trans H; rw [hy240]; with_reducible exact H2_) | (have H2_ := (Option.bind_some _ _).symm.trans H; with_reducible exact H2_) | with_reducible exact H | (rw [hy240]; exact H) | exact H
 have Ny240 := Aside0.mk hy240
 clear hy240
 replace H := Option.bind_eq_some_iff.mp H
 obtain ⟨t242, A300, H⟩ := H
 replace H : (if t242 = true then (impl_MoveBoard.l0 k1 a1 a2 (t227.length : Int) (wrap64 (x33_1 + 1)) a0_0 a0_1 l0_2 t230 t231 y240) else (some (0, 0, ([] : List (S91)), 4))) = some (r1, r2, r3, r4) := H
 have A30 := Aside0.mk A300
 clear A300
 by_cases c31 : t242 = true
 ·subst c31
  have H1 : (impl_MoveBoard.l0 k1 a1 a2 (t227.length : Int) (wrap64 (x33_1 + 1)) a0_0 a0_1 l0_2 t230 t231 y240) = some (r1, r2, r3, r4) := by rw [if_pos rfl] at H; exact H
  clear H
  have H := H1
  clear H1
  have H' := Aside0.mk H
  clear H
  have hnb32 := NB235_222.out
  have hnc32 := NB222_235.out
  have hnb33 := NB235_223.out
  have hnc33 := NB223_235.out
  obtain ⟨z34_0, z34_1, z34_2, y34_0, y34_1, y34_2⟩ := zB3 BK235
  obtain ⟨Ao35, co35, eo35⟩ := Kd.R_slice HO_236002.out
  subst eo35
  have p236 : 0 ≤ (x33_1 : Int) := of_decide_eq_true (by first | (with_reducible assumption) | assumption)
  have q236 : x33_1 < (x236002_1.length : Int) := of_decide_eq_true (by first | (with_reducible assumption) | assumption)
  obtain ⟨ad236, e236, hx236_0, hx236_1, hx236_2, hx236_3, hx236_4⟩ := at_T91 (Kd.R_reads' HO_236002.out).2.2 x33_1 p236 q236
  cases e236
  replace p236 := eq_true p236
  replace q236 := eq_true q236
  have p237 : 0 ≤ (x33_1 : Int) := of_decide_eq_true (by first | (with_reducible assumption) | assumption)
  have q237 : x33_1 < (x236002_1.length : Int) := of_decide_eq_true (by first | (with_reducible assumption) | assumption)
  obtain ⟨ad237, e237, hx237_0, hx237_1, hx237_2, hx237_3, hx237_4⟩ := at_T91 (Kd.R_reads' HO_236002.out).2.2 x33_1 p237 q237
  obtain rfl : ad236 = ad237 := (by injection e237)
  replace p237 := eq_true p237
  replace q237 := eq_true q237
  go_wp2_with (first | ((with_reducible refine gate_callee (f := 102) rfl ?_); refine goesL_ (some 47) rfl rfl Try.func102 (by kernel_rfl) rfl #[.agg #[.int .i8 ((rd_T91 x236002_1 x33_1).f0.f0), .int .i8 ((rd_T91 x236002_1 x33_1).f0.f1)], .int .i64 a1, .int .i64 a2] rfl (by (try simp only [List.map_toArray, List.map_cons, List.map_nil]); first | done | rfl | (simp only [List.length_drop, List.length_take]; rfl)) ?_; (with_reducible refine (impl_Cell_shifted.calls ((rd_T91 x236002_1 x33_1).f0.f0) ((rd_T91 x236002_1 x33_1).f0.f1) a1 a2 t238 t239 _ A28.out).mono ?_); rintro e w36 ⟨rfl, hb⟩; refine ⟨_, rfl, ?_⟩; have n_ : _ ∧ _ ∧ _ ∧ _ ∧ _ := ⟨zr HO_236002 hb, zk BK222 hb, zk BK223 hb, zk BK235 hb, zbs hb⟩; clear HO_236002 BK222 BK223 BK235 HB; obtain ⟨HO_236002, BK222, BK223, BK235, HB⟩ := n_; (try clear hb); (try clear hb2); (try clear hk); (try clear hi); have p29 : 0 ≤ (x33_1 : Int) := of_decide_eq_true (by first | (with_reducible assumption) | assumption); have q29 : (x33_1 : Int) < ((x236002_1.length : Int) : Int) := of_decide_eq_true (by first | (with_reducible assumption) | assumption); obtain ⟨go29, co29, eo29, gb29, gl29, cl29, HG29⟩ := Kd.R_form HO_236002.out (by omega); (first | cases eo29 | (injection eo29 with ea_ en_ ec_; (first | subst ea_ | (injection ea_ with ea_; subst ea_)); subst ec_; clear en_)); have GB29 := Aside0.mk gb29; have GG29 := Aside0.mk HG29; clear gb29 gl29 HG29; (first | simp only [add_plain] at hx236_0 | skip); (first | simp only [add_plain] at hx236_1 | skip); (first | simp only [add_plain] at hx236_2 | skip); (first | simp only [add_plain] at hx236_3 | skip); (first | simp only [add_plain] at hx236_4 | skip); (first | simp only [add_plain] at hx237_0 | skip); (first | simp only [add_plain] at hx237_1 | skip); (first | simp only [add_plain] at hx237_2 | skip); (first | simp only [add_plain] at hx237_3 | skip); (first | simp only [add_plain] at hx237_4 | skip); obtain ⟨ce29, hcl29, hM29, hcc29, hfr29⟩ := Kd.R_elem HO_236002.out z91 (x33_1 : Int) p29 q29; obtain rfl := k91_openM hM29; have hx29_0 : w36.cell? ⟨go29, (x33_1 : Int).toNat * 5, none⟩ = some (.int .i8 ((rd_T91 x236002_1 x33_1).f0.f0)) := hcc29 0 _ rfl; have hx29_1 : w36.cell? ⟨go29, (x33_1 : Int).toNat * 5 + 1, none⟩ = some (.int .i8 ((rd_T91 x236002_1 x33_1).f0.f1)) := hcc29 1 _ rfl; have hx29_2 : w36.cell? ⟨go29, (x33_1 : Int).toNat * 5 + 2, none⟩ = some (.int .i8 ((rd_T91 x236002_1 x33_1).f1)) := hcc29 2 _ rfl; have hx29_3 : w36.cell? ⟨go29, (x33_1 : Int).toNat * 5 + 3, none⟩ = some (.int .i8 ((rd_T91 x236002_1 x33_1).f2)) := hcc29 3 _ rfl; have hx29_4 : w36.cell? ⟨go29, (x33_1 : Int).toNat * 5 + 4, none⟩ = some (.int .i8 ((rd_T91 x236002_1 x33_1).f3)) := hcc29 4 _ rfl; have hf29_0 : w36.frozen? ⟨go29, (x33_1 : Int).toNat * 5, none⟩ = false := hfr29 0; have hf29_1 : w36.frozen? ⟨go29, (x33_1 : Int).toNat * 5 + 1, none⟩ = false := hfr29 1; have hf29_2 : w36.frozen? ⟨go29, (x33_1 : Int).toNat * 5 + 2, none⟩ = false := hfr29 2; have hf29_3 : w36.frozen? ⟨go29, (x33_1 : Int).toNat * 5 + 3, none⟩ = false := hfr29 3; have hf29_4 : w36.frozen? ⟨go29, (x33_1 : Int).toNat * 5 + 4, none⟩ = false := hfr29 4; clear hcl29 hcc29 hfr29 hM29; replace p29 := eq_true p29; replace q29 := eq_true q29; have HX37 := Aside0.mk (show Kd.R k91 91 w36 w.heap.size (fun _ => True) (.slice (some ⟨go29, 0, none⟩) x236002_1.length co35) x236002_1 from (ze HO_236002).out); obtain ⟨ce37, hcl37, hM37, hcc37, hfr37⟩ := Kd.R_elem HX37.out z91 (x33_1 : Int) (of_decide_eq_true (by first | (with_reducible assumption) | assumption)) (by have h_ : (x33_1 : Int) < ((x236002_1.length : Int) : Int) := of_decide_eq_true (by first | (with_reducible assumption) | assumption); first | exact h_ | (have e_ := (Kd.R_reads' HO_236002.out).1; omega) | simpa using h_); obtain rfl := k91_openM hM37; have HP37 := Kd.R_seg HX37.out (x33_1 : Int) (of_decide_eq_true (by first | (with_reducible assumption) | assumption)) (by have h_ : (x33_1 : Int) < ((x236002_1.length : Int) : Int) := of_decide_eq_true (by first | (with_reducible assumption) | assumption); first | exact h_ | (have e_ := (Kd.R_reads' HO_236002.out).1; omega) | simpa using h_) (seg := [.int .i8 t238, .int .i8 t239]) (j := 0) hcl37 hcc37 (show 2 ≤ 5 from by decide) (x' := (⟨(⟨t238, t239⟩ : S74), (rd_T91 x236002_1 x33_1).f1, (rd_T91 x236002_1 x33_1).f2, (rd_T91 x236002_1 x33_1).f3⟩ : S91)) (k91_mkM _ _ _ (⟨(⟨t238, t239⟩ : S74), (rd_T91 x236002_1 x33_1).f1, (rd_T91 x236002_1 x33_1).f2, (rd_T91 x236002_1 x33_1).f3⟩ : S91) ) (fun _ hk => hk); have hx37_0 := hcc37 0 _ rfl; (try simp only [show (k91).sz = 5 from rfl, Nat.mul_one, Nat.add_zero] at hx37_0); have hf37_0 := hfr37 0; (try simp only [show (k91).sz = 5 from rfl, Nat.mul_one, Nat.add_zero] at hf37_0); have hx37_1 := hcc37 1 _ rfl; (try simp only [show (k91).sz = 5 from rfl, Nat.mul_one, Nat.add_zero] at hx37_1); have hf37_1 := hfr37 1; (try simp only [show (k91).sz = 5 from rfl, Nat.mul_one, Nat.add_zero] at hf37_1); clear hcl37 hcc37 hfr37 hM37) | ((with_reducible refine gate_store (t := 74) (p := 49) rfl ?_); refine store_event (t := 74) (p := 49) (v := ?vo_w38) (w1 := ((w36.setCell ⟨go29, (x33_1 : Int).toNat * 5, none⟩ (.int .i8 t238)).setCell ⟨go29, (x33_1 : Int).toNat * 5 + 1, none⟩ (.int .i8 t239))) ?hg ?ho ?hn ?hr ?_; (case ho => rfl); (case hg => rfl); (case hn => rfl); (case hr => first | (go_simp; done) | (go_simp; rfl)); intro w38 hw; have hg : w36.grownBy w38 (some go29) := (by rw [hw]; exact HP37.2); have hp_ : Kd.R k91 91 w38 w.heap.size (fun _ => True) (.slice (some ⟨go29, 0, none⟩) x236002_1.length co35) y240 := (by rw [hw, Ny240.out]; exact HP37.1); clear HP37; have n_ : _ ∧ _ ∧ _ ∧ _ ∧ _ := ⟨Aside0.mk (hp_), Aside0.mk (blk_grown (g := gb222) (o := .cells #[.int .i8 a0_0, .int .i8 a0_1, .slice A0_2 l0_2.length c0_2] 37 (0, 0)) (zh BK222).out hg (Kd.R_ne HO_236002.out BK222.out (by decide))), Aside0.mk (blk_grown (g := gb223) (o := .cells #[.int .i8 x224000_1, .int .i8 x224001_1, .slice none 0 0] 37 (0, 0)) (zh BK223).out hg (Kd.R_ne HO_236002.out BK223.out (by decide))), Aside0.mk (blk_grown (g := gb235) (o := .cells #[.int .i8 t230, .int .i8 t231, .slice (some ⟨go29, 0, none⟩) x236002_1.length co35] 37 (0, 0)) (zh BK235).out hg (Kd.R_ne HO_236002.out BK235.out (by decide))), Aside0.mk ((by rw [hw]; exact below_set (below_set (HB.out) GB29.out) GB29.out : Below w.heap.size w w38))⟩; clear HO_236002 BK222 BK223 BK235 HB; obtain ⟨HO_236002, BK222, BK223, BK235, HB⟩ := n_; clear hg hw hp_; have p241 : 0 ≤ (x33_1 : Int) := of_decide_eq_true (by first | (with_reducible assumption) | assumption); have q241 : x33_1 < (y240.length : Int) := (by have h_ : (x33_1 : Int) < ((x236002_1.length : Int) : Int) := of_decide_eq_true (by first | (with_reducible assumption) | assumption); first | (have e_ := (Kd.R_reads' HO_236002.out).1; omega) | simpa only [Ny240.out, List.length_set] using h_); have ql241 : ((x33_1 : Int) < ((x236002_1.length : Int) : Int)) = True := eq_true (of_decide_eq_true (by first | (with_reducible assumption) | assumption)); obtain ⟨ad241, e241, hx241_0, hx241_1, hx241_2, hx241_3, hx241_4⟩ := at_T91 (Kd.R_reads' HO_236002.out).2.2 x33_1 p241 q241; obtain rfl : (⟨go29, 0, none⟩ : Addr) = ad241 := (by injection e241); (first | simp only [add_plain] at hx241_0 | simp only [add_at] at hx241_0 | simp only [Addr.add, Nat.zero_add] at hx241_0 | skip); (first | simp only [add_plain] at hx241_1 | simp only [add_at] at hx241_1 | simp only [Addr.add, Nat.zero_add] at hx241_1 | skip); (first | simp only [add_plain] at hx241_2 | simp only [add_at] at hx241_2 | simp only [Addr.add, Nat.zero_add] at hx241_2 | skip); (first | simp only [add_plain] at hx241_3 | simp only [add_at] at hx241_3 | simp only [Addr.add, Nat.zero_add] at hx241_3 | skip); (first | simp only [add_plain] at hx241_4 | simp only [add_at] at hx241_4 | simp only [Addr.add, Nat.zero_add] at hx241_4 | skip); replace p241 := eq_true p241; replace q241 := eq_true q241) | ((with_reducible refine gate_callee (f := 109) rfl ?_); refine goesL_ (some 54) rfl rfl Try.func109 (by kernel_rfl) rfl #[.pointer (some ⟨gb222, 0, none⟩), .agg #[.int .i8 ((rd_T91 y240 x33_1).f0.f0), .int .i8 ((rd_T91 y240 x33_1).f0.f1)]] rfl (by (try simp only [List.map_toArray, List.map_cons, List.map_nil]); first | done | rfl | (simp only [List.length_drop, List.length_take]; rfl)) ?_; (with_reducible refine (impl_Board_has.calls _ [(⟨a0_0, a0_1, l0_2⟩ : S37)] ((rd_T91 y240 x33_1).f0.f0) ((rd_T91 y240 x33_1).f0.f1) true _ ?side1 A30.out).mono ?_); (case side1 => refine ro_of_blk (T := 37) (cs := #[.int .i8 a0_0, .int .i8 a0_1, .slice A0_2 l0_2.length c0_2]) (zh BK222).out ?_; exact k37_mk _ (⟨a0_0, a0_1, l0_2⟩ : S37) (by exact HC0_2.out) (by exact zcc HB HR0_2.out)); rintro e w39 ⟨rfl, hb⟩; refine ⟨_, rfl, ?_⟩; have n_ : _ ∧ _ ∧ _ ∧ _ ∧ _ := ⟨zr HO_236002 hb, zk BK222 hb, zk BK223 hb, zk BK235 hb, zbs hb⟩; clear HO_236002 BK222 BK223 BK235 HB; obtain ⟨HO_236002, BK222, BK223, BK235, HB⟩ := n_; (try clear hb); (try clear hb2); (try clear hk); (try clear hi)))
  go_roundg k1
  case measure => have := HK1.out; omega
  case rel => exact ⟨(wrap64 (x33_1 + 1)), (x224000_1), (x224001_1), (y240), (.slice (some ⟨go29, 0, none⟩) x236002_1.length co35), (by first | rfl | (simp; done) | (simp [*]; done) | (exact congrArg (Value.int .i64) (wrap_eq (by omega)))), H', ⟨by have := HK1.out; omega⟩, ze HO_236002, zh BK222, zh BK223, zh BK235, zba⟩
 replace c31 := Bool.eq_false_iff.mpr c31
 subst c31
 have H1 : (some (0, 0, ([] : List (S91)), 4)) = some (r1, r2, r3, r4) := by rw [if_neg (show ¬ (false = true) by decide)] at H; exact H
 clear H
 have H := H1
 clear H1
 simp only [Option.some.injEq, Prod.mk.injEq] at H
 obtain ⟨rfl, rfl, rfl, rfl⟩ := H
 have hnb40 := NB235_222.out
 have hnc40 := NB222_235.out
 have hnb41 := NB235_223.out
 have hnc41 := NB223_235.out
 obtain ⟨z42_0, z42_1, z42_2, y42_0, y42_1, y42_2⟩ := zB3 BK235
 obtain ⟨Ao43, co43, eo43⟩ := Kd.R_slice HO_236002.out
 subst eo43
 have p236 : 0 ≤ (x33_1 : Int) := of_decide_eq_true (by first | (with_reducible assumption) | assumption)
 have q236 : x33_1 < (x236002_1.length : Int) := of_decide_eq_true (by first | (with_reducible assumption) | assumption)
 obtain ⟨ad236, e236, hx236_0, hx236_1, hx236_2, hx236_3, hx236_4⟩ := at_T91 (Kd.R_reads' HO_236002.out).2.2 x33_1 p236 q236
 cases e236
 replace p236 := eq_true p236
 replace q236 := eq_true q236
 have p237 : 0 ≤ (x33_1 : Int) := of_decide_eq_true (by first | (with_reducible assumption) | assumption)
 have q237 : x33_1 < (x236002_1.length : Int) := of_decide_eq_true (by first | (with_reducible assumption) | assumption)
 obtain ⟨ad237, e237, hx237_0, hx237_1, hx237_2, hx237_3, hx237_4⟩ := at_T91 (Kd.R_reads' HO_236002.out).2.2 x33_1 p237 q237
 obtain rfl : ad236 = ad237 := (by injection e237)
 replace p237 := eq_true p237
 replace q237 := eq_true q237
 go_wp2_with (first | ((with_reducible refine gate_callee (f := 102) rfl ?_); refine goesL_ (some 47) rfl rfl Try.func102 (by kernel_rfl) rfl #[.agg #[.int .i8 ((rd_T91 x236002_1 x33_1).f0.f0), .int .i8 ((rd_T91 x236002_1 x33_1).f0.f1)], .int .i64 a1, .int .i64 a2] rfl (by (try simp only [List.map_toArray, List.map_cons, List.map_nil]); first | done | rfl | (simp only [List.length_drop, List.length_take]; rfl)) ?_; (with_reducible refine (impl_Cell_shifted.calls ((rd_T91 x236002_1 x33_1).f0.f0) ((rd_T91 x236002_1 x33_1).f0.f1) a1 a2 t238 t239 _ A28.out).mono ?_); rintro e w44 ⟨rfl, hb⟩; refine ⟨_, rfl, ?_⟩; have n_ : _ ∧ _ ∧ _ ∧ _ ∧ _ := ⟨zr HO_236002 hb, zk BK222 hb, zk BK223 hb, zk BK235 hb, zbs hb⟩; clear HO_236002 BK222 BK223 BK235 HB; obtain ⟨HO_236002, BK222, BK223, BK235, HB⟩ := n_; (try clear hb); (try clear hb2); (try clear hk); (try clear hi); have p29 : 0 ≤ (x33_1 : Int) := of_decide_eq_true (by first | (with_reducible assumption) | assumption); have q29 : (x33_1 : Int) < ((x236002_1.length : Int) : Int) := of_decide_eq_true (by first | (with_reducible assumption) | assumption); obtain ⟨go29, co29, eo29, gb29, gl29, cl29, HG29⟩ := Kd.R_form HO_236002.out (by omega); (first | cases eo29 | (injection eo29 with ea_ en_ ec_; (first | subst ea_ | (injection ea_ with ea_; subst ea_)); subst ec_; clear en_)); have GB29 := Aside0.mk gb29; have GG29 := Aside0.mk HG29; clear gb29 gl29 HG29; (first | simp only [add_plain] at hx236_0 | skip); (first | simp only [add_plain] at hx236_1 | skip); (first | simp only [add_plain] at hx236_2 | skip); (first | simp only [add_plain] at hx236_3 | skip); (first | simp only [add_plain] at hx236_4 | skip); (first | simp only [add_plain] at hx237_0 | skip); (first | simp only [add_plain] at hx237_1 | skip); (first | simp only [add_plain] at hx237_2 | skip); (first | simp only [add_plain] at hx237_3 | skip); (first | simp only [add_plain] at hx237_4 | skip); obtain ⟨ce29, hcl29, hM29, hcc29, hfr29⟩ := Kd.R_elem HO_236002.out z91 (x33_1 : Int) p29 q29; obtain rfl := k91_openM hM29; have hx29_0 : w44.cell? ⟨go29, (x33_1 : Int).toNat * 5, none⟩ = some (.int .i8 ((rd_T91 x236002_1 x33_1).f0.f0)) := hcc29 0 _ rfl; have hx29_1 : w44.cell? ⟨go29, (x33_1 : Int).toNat * 5 + 1, none⟩ = some (.int .i8 ((rd_T91 x236002_1 x33_1).f0.f1)) := hcc29 1 _ rfl; have hx29_2 : w44.cell? ⟨go29, (x33_1 : Int).toNat * 5 + 2, none⟩ = some (.int .i8 ((rd_T91 x236002_1 x33_1).f1)) := hcc29 2 _ rfl; have hx29_3 : w44.cell? ⟨go29, (x33_1 : Int).toNat * 5 + 3, none⟩ = some (.int .i8 ((rd_T91 x236002_1 x33_1).f2)) := hcc29 3 _ rfl; have hx29_4 : w44.cell? ⟨go29, (x33_1 : Int).toNat * 5 + 4, none⟩ = some (.int .i8 ((rd_T91 x236002_1 x33_1).f3)) := hcc29 4 _ rfl; have hf29_0 : w44.frozen? ⟨go29, (x33_1 : Int).toNat * 5, none⟩ = false := hfr29 0; have hf29_1 : w44.frozen? ⟨go29, (x33_1 : Int).toNat * 5 + 1, none⟩ = false := hfr29 1; have hf29_2 : w44.frozen? ⟨go29, (x33_1 : Int).toNat * 5 + 2, none⟩ = false := hfr29 2; have hf29_3 : w44.frozen? ⟨go29, (x33_1 : Int).toNat * 5 + 3, none⟩ = false := hfr29 3; have hf29_4 : w44.frozen? ⟨go29, (x33_1 : Int).toNat * 5 + 4, none⟩ = false := hfr29 4; clear hcl29 hcc29 hfr29 hM29; replace p29 := eq_true p29; replace q29 := eq_true q29; have HX45 := Aside0.mk (show Kd.R k91 91 w44 w.heap.size (fun _ => True) (.slice (some ⟨go29, 0, none⟩) x236002_1.length co43) x236002_1 from (ze HO_236002).out); obtain ⟨ce45, hcl45, hM45, hcc45, hfr45⟩ := Kd.R_elem HX45.out z91 (x33_1 : Int) (of_decide_eq_true (by first | (with_reducible assumption) | assumption)) (by have h_ : (x33_1 : Int) < ((x236002_1.length : Int) : Int) := of_decide_eq_true (by first | (with_reducible assumption) | assumption); first | exact h_ | (have e_ := (Kd.R_reads' HO_236002.out).1; omega) | simpa using h_); obtain rfl := k91_openM hM45; have HP45 := Kd.R_seg HX45.out (x33_1 : Int) (of_decide_eq_true (by first | (with_reducible assumption) | assumption)) (by have h_ : (x33_1 : Int) < ((x236002_1.length : Int) : Int) := of_decide_eq_true (by first | (with_reducible assumption) | assumption); first | exact h_ | (have e_ := (Kd.R_reads' HO_236002.out).1; omega) | simpa using h_) (seg := [.int .i8 t238, .int .i8 t239]) (j := 0) hcl45 hcc45 (show 2 ≤ 5 from by decide) (x' := (⟨(⟨t238, t239⟩ : S74), (rd_T91 x236002_1 x33_1).f1, (rd_T91 x236002_1 x33_1).f2, (rd_T91 x236002_1 x33_1).f3⟩ : S91)) (k91_mkM _ _ _ (⟨(⟨t238, t239⟩ : S74), (rd_T91 x236002_1 x33_1).f1, (rd_T91 x236002_1 x33_1).f2, (rd_T91 x236002_1 x33_1).f3⟩ : S91) ) (fun _ hk => hk); have hx45_0 := hcc45 0 _ rfl; (try simp only [show (k91).sz = 5 from rfl, Nat.mul_one, Nat.add_zero] at hx45_0); have hf45_0 := hfr45 0; (try simp only [show (k91).sz = 5 from rfl, Nat.mul_one, Nat.add_zero] at hf45_0); have hx45_1 := hcc45 1 _ rfl; (try simp only [show (k91).sz = 5 from rfl, Nat.mul_one, Nat.add_zero] at hx45_1); have hf45_1 := hfr45 1; (try simp only [show (k91).sz = 5 from rfl, Nat.mul_one, Nat.add_zero] at hf45_1); clear hcl45 hcc45 hfr45 hM45) | ((with_reducible refine gate_store (t := 74) (p := 49) rfl ?_); refine store_event (t := 74) (p := 49) (v := ?vo_w46) (w1 := ((w44.setCell ⟨go29, (x33_1 : Int).toNat * 5, none⟩ (.int .i8 t238)).setCell ⟨go29, (x33_1 : Int).toNat * 5 + 1, none⟩ (.int .i8 t239))) ?hg ?ho ?hn ?hr ?_; (case ho => rfl); (case hg => rfl); (case hn => rfl); (case hr => first | (go_simp; done) | (go_simp; rfl)); intro w46 hw; have hg : w44.grownBy w46 (some go29) := (by rw [hw]; exact HP45.2); have hp_ : Kd.R k91 91 w46 w.heap.size (fun _ => True) (.slice (some ⟨go29, 0, none⟩) x236002_1.length co43) y240 := (by rw [hw, Ny240.out]; exact HP45.1); clear HP45; have n_ : _ ∧ _ ∧ _ ∧ _ ∧ _ := ⟨Aside0.mk (hp_), Aside0.mk (blk_grown (g := gb222) (o := .cells #[.int .i8 a0_0, .int .i8 a0_1, .slice A0_2 l0_2.length c0_2] 37 (0, 0)) (zh BK222).out hg (Kd.R_ne HO_236002.out BK222.out (by decide))), Aside0.mk (blk_grown (g := gb223) (o := .cells #[.int .i8 x224000_1, .int .i8 x224001_1, .slice none 0 0] 37 (0, 0)) (zh BK223).out hg (Kd.R_ne HO_236002.out BK223.out (by decide))), Aside0.mk (blk_grown (g := gb235) (o := .cells #[.int .i8 t230, .int .i8 t231, .slice (some ⟨go29, 0, none⟩) x236002_1.length co43] 37 (0, 0)) (zh BK235).out hg (Kd.R_ne HO_236002.out BK235.out (by decide))), Aside0.mk ((by rw [hw]; exact below_set (below_set (HB.out) GB29.out) GB29.out : Below w.heap.size w w46))⟩; clear HO_236002 BK222 BK223 BK235 HB; obtain ⟨HO_236002, BK222, BK223, BK235, HB⟩ := n_; clear hg hw hp_; have p241 : 0 ≤ (x33_1 : Int) := of_decide_eq_true (by first | (with_reducible assumption) | assumption); have q241 : x33_1 < (y240.length : Int) := (by have h_ : (x33_1 : Int) < ((x236002_1.length : Int) : Int) := of_decide_eq_true (by first | (with_reducible assumption) | assumption); first | (have e_ := (Kd.R_reads' HO_236002.out).1; omega) | simpa only [Ny240.out, List.length_set] using h_); have ql241 : ((x33_1 : Int) < ((x236002_1.length : Int) : Int)) = True := eq_true (of_decide_eq_true (by first | (with_reducible assumption) | assumption)); obtain ⟨ad241, e241, hx241_0, hx241_1, hx241_2, hx241_3, hx241_4⟩ := at_T91 (Kd.R_reads' HO_236002.out).2.2 x33_1 p241 q241; obtain rfl : (⟨go29, 0, none⟩ : Addr) = ad241 := (by injection e241); (first | simp only [add_plain] at hx241_0 | simp only [add_at] at hx241_0 | simp only [Addr.add, Nat.zero_add] at hx241_0 | skip); (first | simp only [add_plain] at hx241_1 | simp only [add_at] at hx241_1 | simp only [Addr.add, Nat.zero_add] at hx241_1 | skip); (first | simp only [add_plain] at hx241_2 | simp only [add_at] at hx241_2 | simp only [Addr.add, Nat.zero_add] at hx241_2 | skip); (first | simp only [add_plain] at hx241_3 | simp only [add_at] at hx241_3 | simp only [Addr.add, Nat.zero_add] at hx241_3 | skip); (first | simp only [add_plain] at hx241_4 | simp only [add_at] at hx241_4 | simp only [Addr.add, Nat.zero_add] at hx241_4 | skip); replace p241 := eq_true p241; replace q241 := eq_true q241) | ((with_reducible refine gate_callee (f := 109) rfl ?_); refine goesL_ (some 54) rfl rfl Try.func109 (by kernel_rfl) rfl #[.pointer (some ⟨gb222, 0, none⟩), .agg #[.int .i8 ((rd_T91 y240 x33_1).f0.f0), .int .i8 ((rd_T91 y240 x33_1).f0.f1)]] rfl (by (try simp only [List.map_toArray, List.map_cons, List.map_nil]); first | done | rfl | (simp only [List.length_drop, List.length_take]; rfl)) ?_; (with_reducible refine (impl_Board_has.calls _ [(⟨a0_0, a0_1, l0_2⟩ : S37)] ((rd_T91 y240 x33_1).f0.f0) ((rd_T91 y240 x33_1).f0.f1) false _ ?side1 A30.out).mono ?_); (case side1 => refine ro_of_blk (T := 37) (cs := #[.int .i8 a0_0, .int .i8 a0_1, .slice A0_2 l0_2.length c0_2]) (zh BK222).out ?_; exact k37_mk _ (⟨a0_0, a0_1, l0_2⟩ : S37) (by exact HC0_2.out) (by exact zcc HB HR0_2.out)); rintro e w47 ⟨rfl, hb⟩; refine ⟨_, rfl, ?_⟩; have n_ : _ ∧ _ ∧ _ ∧ _ ∧ _ := ⟨zr HO_236002 hb, zk BK222 hb, zk BK223 hb, zk BK235 hb, zbs hb⟩; clear HO_236002 BK222 BK223 BK235 HB; obtain ⟨HO_236002, BK222, BK223, BK235, HB⟩ := n_; (try clear hb); (try clear hb2); (try clear hk); (try clear hi); have hnb48 := NB223_222.out; have hnc48 := NB222_223.out; obtain ⟨z49_0, z49_1, z49_2, y49_0, y49_1, y49_2⟩ := zB3 BK223))
 refine bodyPost_ret (results_ct rfl _ _ gb223 37 #[.int .i8 0, .int .i8 0, .slice none 0 0] (0, 0) _ rfl (by (with_reducible repeat (first | refine blk_drewN ?_ _ | refine blk_drew ?_ | refine blk_alloc ?_ _)); refine blk_put (cs := #[.int .i8 0, .int .i8 0, .slice none 0 0]) ?_ 2 _ rfl; (with_reducible repeat (first | refine blk_drewN ?_ _ | refine blk_drew ?_ | refine blk_alloc ?_ _)); refine blk_put (cs := #[.int .i8 0, .int .i8 x224001_1, .slice none 0 0]) ?_ 1 _ rfl; (with_reducible repeat (first | refine blk_drewN ?_ _ | refine blk_drew ?_ | refine blk_alloc ?_ _)); refine blk_put (cs := #[.int .i8 x224000_1, .int .i8 x224001_1, .slice none 0 0]) ?_ 0 _ rfl; (with_reducible repeat (first | refine blk_drewN ?_ _ | refine blk_drew ?_ | refine blk_alloc ?_ _)); exact BK223.out) Try.underlying37 rfl (by kernel_rfl)) rfl ?_
 exact ⟨_, by first | rfl | (simp [errW_none, errW_some] <;> rfl) | (simp [*, errW_none, errW_some] <;> rfl), by first | exact Kd.R_nil _ _ _ _ _ | exact Kd.N_nil _ _ _ _ _ | exact Kd.V_nil _ _ _ _ _ | exact Kd.Q_nil _ _ _ _ _ | exact Kd.S_nil _ _ _ _ _, by repeat (first | (with_reducible first | exact HB.out | apply below_alloc | apply pw_below_drewN | apply below_drew1 | refine below_set ?_ GE222.out | refine below_set ?_ GE223.out | refine below_set ?_ GE235.out) | exact HB.out)⟩
end Go.Proofs.Ytffnfpnajkgnaaa.PFnExactMoveBoard
