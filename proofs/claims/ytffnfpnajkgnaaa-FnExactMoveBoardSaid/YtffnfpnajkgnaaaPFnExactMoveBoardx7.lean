-- WRITTEN by xprint.py, a program of this session's. Not trusted: Lean checks it.
-- packed by pack.py
import Derived.Test.YtffnfpnajkgnaaaPFnExactMoveBoardx0
import Derived.Test.YtffnfpnajkgnaaaPFnExactMoveBoardx4
import Derived.Test.YtffnfpnajkgnaaaPFnExactMoveBoardx5
import Derived.Test.YtffnfpnajkgnaaaPFnExactMoveBoardx6
import Derived.Test.YtffnfpnajkgnaaaTFnExactMoveBoarda
namespace Go.Proofs.Ytffnfpnajkgnaaa.PFnExactMoveBoard
open Go.RowKit Go.Proofs.YtffnfpnajkgnaaaW.PrintWords Go.Proofs.YtffnfpnajkgnaaaW.PrintLast Go.Proofs.YtffnfpnajkgnaaaW.PrintMore Go.Proofs.YtffnfpnajkgnaaaX
attribute [local go_sem] max2_int min2_int max_two min_two max_three min_three max_four min_four   -- for this text's walks alone
set_option linter.unusedVariables false
set_option linter.unusedSimpArgs false

/-! ### spec_MoveBoard: function 62 -/
mutual
def spec_MoveBoard.j0 : Nat → Int → Int → Bool → Int → Int → List (S91) → Option (Int × Int × (List (S91)) × Int)
  | 0, _, _, _, _, _, _ => none
  | k + 1, x1, x2, x21, x193000, x193001, x193002 => if x21 = true then (some (0, 0, ([] : List (S91)), 2)) else ((spec_l01Copy.f [(⟨x193000, x193001, x193002⟩ : S37)]).bind fun bt197 => (spec_MoveBoard.l0 k x1 x2 0 bt197.1 bt197.2.1 bt197.2.2))
def spec_MoveBoard.l0 : Nat → Int → Int → Int → Int → Int → List (S91) → Option (Int × Int × (List (S91)) × Int)
  | 0, _, _, _, _, _, _ => none
  | k + 1, x1, x2, x9, x203000, x203001, x203002 => if x9 < (x203002.length : Int) then (if 0 ≤ x9 then ((some (x203002.set (x9 : Int).toNat (⟨(⟨IntKind.i8.wrap (((rd_T91 x203002 x9).f0.f0) + (IntKind.i8.wrap (x1))), (rd_T91 x203002 x9).f0.f1⟩ : S74), (rd_T91 x203002 x9).f1, (rd_T91 x203002 x9).f2, (rd_T91 x203002 x9).f3⟩ : S91) : List (S91))).bind fun y205 => (spec_MoveBoard.l0 k x1 x2 (wrap64 (x9 + 1)) x203000 x203001 (y205.set (x9 : Int).toNat (⟨(⟨(rd_T91 y205 x9).f0.f0, IntKind.i8.wrap (((rd_T91 y205 x9).f0.f1) + (IntKind.i8.wrap (x2)))⟩ : S74), (rd_T91 y205 x9).f1, (rd_T91 y205 x9).f2, (rd_T91 y205 x9).f3⟩ : S91)))) else (none)) else ((spec_l01Ok.f k [(⟨x203000, x203001, x203002⟩ : S37)]).bind fun t208 => (if t208 = true then (some (x203000, x203001, x203002, 0)) else (some (0, 0, ([] : List (S91)), 4))))
end
def spec_MoveBoard.f (k : Nat) (a0_0 : Int) (a0_1 : Int) (l0_2 : List (S91)) (a1 : Int) (a2 : Int) : Option (Int × Int × (List (S91)) × Int) := (spec_l01Ok.f k [(⟨a0_0, a0_1, l0_2⟩ : S37)]).bind fun t194 => (if t194 = true then ((spec_l00In.f a1 (-24) 24).bind fun t195 => (if t195 = true then ((spec_l00In.f a2 (-24) 24).bind fun t196 => (spec_MoveBoard.j0 k a1 a2 (!t196) a0_0 a0_1 l0_2)) else (spec_MoveBoard.j0 k a1 a2 true a0_0 a0_1 l0_2))) else (some (0, 0, ([] : List (S91)), 1)))
theorem spec_MoveBoard.mono_l : ∀ k, (∀ y0 y1 y2 y3 y4 y5, LeO (spec_MoveBoard.j0 k y0 y1 y2 y3 y4 y5) (spec_MoveBoard.j0 (k + 1) y0 y1 y2 y3 y4 y5)) ∧ (∀ y0 y1 y2 y3 y4 y5, LeO (spec_MoveBoard.l0 k y0 y1 y2 y3 y4 y5) (spec_MoveBoard.l0 (k + 1) y0 y1 y2 y3 y4 y5))
  | 0 => ⟨fun _ _ _ _ _ _ r h => by simp [spec_MoveBoard.j0] at h, fun _ _ _ _ _ _ r h => by simp [spec_MoveBoard.l0] at h⟩
  | k + 1 => by
    obtain ⟨ih0, ih1⟩ := spec_MoveBoard.mono_l k
    refine ⟨?_, ?_⟩
    · intro y0 y1 y2 y3 y4 y5
      unfold spec_MoveBoard.j0
      repeat' first | (with_reducible first | apply ih0 | apply ih1 | apply spec_l01Ok.mono | exact LeO.refl _ | exact LeO.none _ | refine LeO.ite ?_ ?_ | refine LeO.bind ?_ (fun _ => ?_)) | apply ih0 | apply ih1 | apply spec_l01Ok.mono | exact LeO.none _ | refine LeO.ite ?_ ?_ | refine LeO.bind ?_ (fun _ => ?_)
    · intro y0 y1 y2 y3 y4 y5
      unfold spec_MoveBoard.l0
      repeat' first | (with_reducible first | apply ih0 | apply ih1 | apply spec_l01Ok.mono | exact LeO.refl _ | exact LeO.none _ | refine LeO.ite ?_ ?_ | refine LeO.bind ?_ (fun _ => ?_)) | apply ih0 | apply ih1 | apply spec_l01Ok.mono | exact LeO.none _ | refine LeO.ite ?_ ?_ | refine LeO.bind ?_ (fun _ => ?_)
theorem spec_MoveBoard.mono : ∀ a0 a1 a2 a3 a4 k, LeO (spec_MoveBoard.f k a0 a1 a2 a3 a4) (spec_MoveBoard.f (k + 1) a0 a1 a2 a3 a4) := by
 intro a0 a1 a2 a3 a4 k
 obtain ⟨ih0, ih1⟩ := spec_MoveBoard.mono_l k
 unfold spec_MoveBoard.f
 repeat' first | (with_reducible first | apply ih0 | apply ih1 | apply spec_l01Ok.mono | exact LeO.refl _ | exact LeO.none _ | refine LeO.ite ?_ ?_ | refine LeO.bind ?_ (fun _ => ?_)) | apply ih0 | apply ih1 | apply spec_l01Ok.mono | exact LeO.none _ | refine LeO.ite ?_ ?_ | refine LeO.bind ?_ (fun _ => ?_)
def spec_MoveBoard.T10 : Bool × List (List Nat × List Nat) := (true, [([], []), ([0], [0]), ([1], [1]), ([2], [2]), ([], []), ([4], [4]), ([3, 5], [3, 5]), ([0], [0]), ([7, 0, 1, 2, 3, 4, 5, 6], [7]), ([8, 6, 0, 1, 2, 3, 4, 5, 6], [6, 8])])
def spec_MoveBoard.B10 : List Nat := [0, 1, 3, 7, 0, 16, 63, 1, 255, 511]
theorem spec_MoveBoard.tab10 : rtab .any (opsOf Try.f62 10) = spec_MoveBoard.T10 := by kernel_rfl
theorem spec_MoveBoard.bits10 : waitsOk spec_MoveBoard.T10.2 spec_MoveBoard.B10 = true := by kernel_rfl
def spec_MoveBoard.T11 : Bool × List (List Nat × List Nat) := (true, [([], []), ([0], [0]), ([1], [1]), ([2], [2]), ([], []), ([4], [4]), ([3, 5], [3, 5]), ([0], [0]), ([7, 0, 1, 2, 3, 4, 5, 6], [7]), ([8, 6, 0, 1, 2, 3, 4, 5, 6], [6, 8])])
def spec_MoveBoard.B11 : List Nat := [0, 1, 3, 7, 0, 16, 63, 1, 255, 511]
theorem spec_MoveBoard.tab11 : rtab .any (opsOf Try.f62 11) = spec_MoveBoard.T11 := by kernel_rfl
theorem spec_MoveBoard.bits11 : waitsOk spec_MoveBoard.T11.2 spec_MoveBoard.B11 = true := by kernel_rfl
set_option maxHeartbeats 8000000 in
set_option maxRecDepth 100000 in
theorem spec_MoveBoard.calls (k : Nat) (a0_0 : Int) (a0_1 : Int) (A0_2 : Option Addr) (c0_2 : Nat) (l0_2 : List (S91)) (a1 : Int) (a2 : Int) (r1 : Int) (r2 : Int) (r3 : List (S91)) (r4 : Int) (w : World) (hr0_2 : Kd.C k91 w A0_2 l0_2.length l0_2) (hc0_2 : l0_2.length ≤ c0_2) (h : spec_MoveBoard.f k a0_0 a0_1 l0_2 a1 a2 = some (r1, r2, r3, r4)) :
    Calls Try.prog 62 #[.agg #[.int .i8 a0_0, .int .i8 a0_1, .slice A0_2 l0_2.length c0_2], .int .i64 a1, .int .i64 a2] w fun e w' => ∃ v2_ : Value, e = .returned (.tuple #[.agg #[.int .i8 r1, .int .i8 r2, v2_], .int .i64 r4]) ∧ Kd.R k91 91 w' w.heap.size (fun _ => True) v2_ r3 ∧ Below w.heap.size w w' := by
 have hu37 := Try.underlying37
 have HR0_2 := Aside0.mk hr0_2
 have HC0_2 := Aside0.mk hc0_2
 clear hr0_2 hc0_2
 have HB := Aside0.mk (Below.refl w.heap.size w)
 have H : ((spec_l01Ok.f k [(⟨a0_0, a0_1, l0_2⟩ : S37)]).bind fun t194 => (if t194 = true then ((spec_l00In.f a1 (-24) 24).bind fun t195 => (if t195 = true then ((spec_l00In.f a2 (-24) 24).bind fun t196 => (spec_MoveBoard.j0 k a1 a2 (!t196) a0_0 a0_1 l0_2)) else (spec_MoveBoard.j0 k a1 a2 true a0_0 a0_1 l0_2))) else (some (0, 0, ([] : List (S91)), 1)))) = some (r1, r2, r3, r4) := h
 clear h
 replace H := Option.bind_eq_some_iff.mp H
 obtain ⟨t194, A40, H⟩ := H
 replace H : (if t194 = true then ((spec_l00In.f a1 (-24) 24).bind fun t195 => (if t195 = true then ((spec_l00In.f a2 (-24) 24).bind fun t196 => (spec_MoveBoard.j0 k a1 a2 (!t196) a0_0 a0_1 l0_2)) else (spec_MoveBoard.j0 k a1 a2 true a0_0 a0_1 l0_2))) else (some (0, 0, ([] : List (S91)), 1))) = some (r1, r2, r3, r4) := H
 have A4 := Aside0.mk A40
 clear A40
 by_cases c5 : t194 = true
 rotate_left
 ·replace c5 := Bool.eq_false_iff.mpr c5
  subst c5
  have H1 : (some (0, 0, ([] : List (S91)), 1)) = some (r1, r2, r3, r4) := by rw [if_neg (show ¬ (false = true) by decide)] at H; exact H
  clear H
  have H := H1
  clear H1
  simp only [Option.some.injEq, Prod.mk.injEq] at H
  obtain ⟨rfl, rfl, rfl, rfl⟩ := H
  go_enter Try.func62, Try.ntmps62
  go_wp2_with (first | ((with_reducible refine gate_dst (N := 3) rfl ?_); refine box_event ?hg (N := 3) ?hd (cs := #[.int .i8 a0_0, .int .i8 a0_1, .slice A0_2 l0_2.length c0_2]) (t := 37) ?hr ?_; (case hd => rfl); (case hg => rfl); (case hr => first | (go_simp; done) | (go_simp; rfl)); intro gb192 hg w53 hbox hb; have n_ : _ ∧ _ ∧ _ ∧ _ := ⟨zb HB hb, Aside0.mk (hbox), zg HB hg, zg HB hg⟩; clear HB; obtain ⟨HB, BK192, GW192, GE192⟩ := n_; clear hb hbox hg) | ((with_reducible refine gate_dst (N := 6) rfl ?_); refine box_event ?hg (N := 6) ?hd (cs := #[.int .i8 0, .int .i8 0, .slice none 0 0]) (t := 37) ?hr ?_; (case hd => rfl); (case hg => rfl); (case hr => first | (go_simp; done) | (go_simp; rfl)); intro gb193 hg w54 hbox hb; have n_ : _ ∧ _ ∧ _ ∧ _ ∧ _ ∧ _ ∧ _ := ⟨zk BK192 hb, zbs hb, Aside0.mk (hbox), zg HB hg, zg HB hg, zn1 BK192 hg, zn2 BK192 hg⟩; clear BK192 HB; obtain ⟨BK192, HB, BK193, GW193, GE193, NB192_193, NB193_192⟩ := n_; clear hb hbox hg) | ((with_reducible refine gate_callee (f := 106) rfl ?_); refine goesL_ (some 11) rfl rfl Try.func106 (by kernel_rfl) rfl #[.pointer (some ⟨gb192, 0, none⟩)] rfl (by (try simp only [List.map_toArray, List.map_cons, List.map_nil]); first | done | rfl | (simp only [List.length_drop, List.length_take]; rfl)) ?_; (with_reducible refine (spec_l01Ok.calls k _ [(⟨a0_0, a0_1, l0_2⟩ : S37)] false _ ?side1 A4.out).mono ?_); (case side1 => refine ro_of_blk (T := 37) (cs := #[.int .i8 a0_0, .int .i8 a0_1, .slice A0_2 l0_2.length c0_2]) (zh BK192).out ?_; exact k37_mk _ (⟨a0_0, a0_1, l0_2⟩ : S37) (by exact HC0_2.out) (by exact zcc HB HR0_2.out)); rintro e w55 ⟨rfl, hb⟩; refine ⟨_, rfl, ?_⟩; have n_ : _ ∧ _ ∧ _ := ⟨zk BK192 hb, zk BK193 hb, zbs hb⟩; clear BK192 BK193 HB; obtain ⟨BK192, BK193, HB⟩ := n_; (try clear hb); (try clear hb2); (try clear hk); (try clear hi); have hnb56 := NB193_192.out; have hnc56 := NB192_193.out; obtain ⟨z57_0, z57_1, z57_2, y57_0, y57_1, y57_2⟩ := zB3 BK193))
  refine bodyPost_ret (results_ct rfl _ _ gb193 37 #[.int .i8 0, .int .i8 0, .slice none 0 0] (0, 0) _ rfl (by (with_reducible repeat (first | refine blk_drewN ?_ _ | refine blk_drew ?_ | refine blk_alloc ?_ _)); refine blk_put (cs := #[.int .i8 0, .int .i8 0, .slice none 0 0]) ?_ 2 _ rfl; (with_reducible repeat (first | refine blk_drewN ?_ _ | refine blk_drew ?_ | refine blk_alloc ?_ _)); refine blk_put (cs := #[.int .i8 0, .int .i8 0, .slice none 0 0]) ?_ 1 _ rfl; (with_reducible repeat (first | refine blk_drewN ?_ _ | refine blk_drew ?_ | refine blk_alloc ?_ _)); refine blk_put (cs := #[.int .i8 0, .int .i8 0, .slice none 0 0]) ?_ 0 _ rfl; (with_reducible repeat (first | refine blk_drewN ?_ _ | refine blk_drew ?_ | refine blk_alloc ?_ _)); exact BK193.out) Try.underlying37 rfl (by kernel_rfl)) rfl ?_
  exact ⟨_, by first | rfl | (simp [errW_none, errW_some] <;> rfl) | (simp [*, errW_none, errW_some] <;> rfl), by first | exact Kd.R_nil _ _ _ _ _ | exact Kd.N_nil _ _ _ _ _ | exact Kd.V_nil _ _ _ _ _ | exact Kd.Q_nil _ _ _ _ _ | exact Kd.S_nil _ _ _ _ _, by repeat (first | (with_reducible first | exact HB.out | apply below_alloc | apply pw_below_drewN | apply below_drew1 | refine below_set ?_ GE192.out | refine below_set ?_ GE193.out) | exact HB.out)⟩
 subst c5
 have H1 : ((spec_l00In.f a1 (-24) 24).bind fun t195 => (if t195 = true then ((spec_l00In.f a2 (-24) 24).bind fun t196 => (spec_MoveBoard.j0 k a1 a2 (!t196) a0_0 a0_1 l0_2)) else (spec_MoveBoard.j0 k a1 a2 true a0_0 a0_1 l0_2))) = some (r1, r2, r3, r4) := by rw [if_pos rfl] at H; exact H
 clear H
 have H := H1
 clear H1
 have HC6 := Aside0.mk H
 clear H
 go_enter Try.func62, Try.ntmps62
 go_upto_region 3 with (first | ((with_reducible refine gate_dst (N := 3) rfl ?_); refine box_event ?hg (N := 3) ?hd (cs := #[.int .i8 a0_0, .int .i8 a0_1, .slice A0_2 l0_2.length c0_2]) (t := 37) ?hr ?_; (case hd => rfl); (case hg => rfl); (case hr => first | (go_simp; done) | (go_simp; rfl)); intro gb192 hg w7 hbox hb; have n_ : _ ∧ _ ∧ _ ∧ _ := ⟨zb HB hb, Aside0.mk (hbox), zg HB hg, zg HB hg⟩; clear HB; obtain ⟨HB, BK192, GW192, GE192⟩ := n_; clear hb hbox hg) | ((with_reducible refine gate_dst (N := 6) rfl ?_); refine box_event ?hg (N := 6) ?hd (cs := #[.int .i8 0, .int .i8 0, .slice none 0 0]) (t := 37) ?hr ?_; (case hd => rfl); (case hg => rfl); (case hr => first | (go_simp; done) | (go_simp; rfl)); intro gb193 hg w8 hbox hb; have n_ : _ ∧ _ ∧ _ ∧ _ ∧ _ ∧ _ ∧ _ := ⟨zk BK192 hb, zbs hb, Aside0.mk (hbox), zg HB hg, zg HB hg, zn1 BK192 hg, zn2 BK192 hg⟩; clear BK192 HB; obtain ⟨BK192, HB, BK193, GW193, GE193, NB192_193, NB193_192⟩ := n_; clear hb hbox hg) | ((with_reducible refine gate_callee (f := 106) rfl ?_); refine goesL_ (some 11) rfl rfl Try.func106 (by kernel_rfl) rfl #[.pointer (some ⟨gb192, 0, none⟩)] rfl (by (try simp only [List.map_toArray, List.map_cons, List.map_nil]); first | done | rfl | (simp only [List.length_drop, List.length_take]; rfl)) ?_; (with_reducible refine (spec_l01Ok.calls k _ [(⟨a0_0, a0_1, l0_2⟩ : S37)] true _ ?side1 A4.out).mono ?_); (case side1 => refine ro_of_blk (T := 37) (cs := #[.int .i8 a0_0, .int .i8 a0_1, .slice A0_2 l0_2.length c0_2]) (zh BK192).out ?_; exact k37_mk _ (⟨a0_0, a0_1, l0_2⟩ : S37) (by exact HC0_2.out) (by exact zcc HB HR0_2.out)); rintro e w9 ⟨rfl, hb⟩; refine ⟨_, rfl, ?_⟩; have n_ : _ ∧ _ ∧ _ := ⟨zk BK192 hb, zk BK193 hb, zbs hb⟩; clear BK192 BK193 HB; obtain ⟨BK192, BK193, HB⟩ := n_; (try clear hb); (try clear hb2); (try clear hk); (try clear hi)))
 (try simp only [Act.put, List.setIfInBounds_toArray, List.set_cons_zero, List.set_cons_succ])
 go_cut [21] (fun v21 wc => ∃ (kq : Nat) (x21_5 : Bool), v21 = .bool x21_5 ∧ Aside0 (spec_MoveBoard.j0 kq a1 a2 x21_5 a0_0 a0_1 l0_2 = some (r1, r2, r3, r4)) ∧ Aside0 (kq ≤ k) ∧ Aside0 (wc.heap[gb192]? = some (.cells #[.int .i8 a0_0, .int .i8 a0_1, (.slice A0_2 l0_2.length c0_2)] 37 (0, 0))) ∧ Aside0 (wc.heap[gb193]? = some (.cells #[.int .i8 0, .int .i8 0, (.slice none 0 0)] 37 (0, 0))) ∧ Aside0 (Below w.heap.size w wc))
 case first =>
  have H := HC6.out
  clear HC6
  replace H := Option.bind_eq_some_iff.mp H
  obtain ⟨t195, A100, H⟩ := H
  replace H : (if t195 = true then ((spec_l00In.f a2 (-24) 24).bind fun t196 => (spec_MoveBoard.j0 k a1 a2 (!t196) a0_0 a0_1 l0_2)) else (spec_MoveBoard.j0 k a1 a2 true a0_0 a0_1 l0_2)) = some (r1, r2, r3, r4) := H
  have A10 := Aside0.mk A100
  clear A100
  by_cases c11 : t195 = true
  rotate_left
  ·replace c11 := Bool.eq_false_iff.mpr c11
   subst c11
   have H1 : (spec_MoveBoard.j0 k a1 a2 true a0_0 a0_1 l0_2) = some (r1, r2, r3, r4) := by rw [if_neg (show ¬ (false = true) by decide)] at H; exact H
   clear H
   have H := H1
   clear H1
   have H' := Aside0.mk H
   clear H
   go_wp2_with (first | ((with_reducible refine gate_callee (f := 96) rfl ?_); refine goesL_ (some 15) rfl rfl Try.func96 (by kernel_rfl) rfl #[.int .i64 a1, .int .i64 (-24), .int .i64 24] rfl (by (try simp only [List.map_toArray, List.map_cons, List.map_nil]); first | done | rfl | (simp only [List.length_drop, List.length_take]; rfl)) ?_; (with_reducible refine (spec_l00In.calls a1 (-24) 24 false _ A10.out).mono ?_); rintro e w' ⟨rfl, ⟨nd, rfl⟩⟩; refine ⟨_, rfl, ?_⟩))
   go_meet
   case rel => exact ⟨_, (true), (by first | rfl | (simp; done) | (simp [*]; done) | (exact congrArg (Value.int .i64) (wrap_eq (by omega)))), H', ⟨by first | omega | exact Nat.le_refl _⟩, zh BK192, zh BK193, zba⟩
  subst c11
  have H1 : ((spec_l00In.f a2 (-24) 24).bind fun t196 => (spec_MoveBoard.j0 k a1 a2 (!t196) a0_0 a0_1 l0_2)) = some (r1, r2, r3, r4) := by rw [if_pos rfl] at H; exact H
  clear H
  have H := H1
  clear H1
  replace H := Option.bind_eq_some_iff.mp H
  obtain ⟨t196, A120, H⟩ := H
  replace H : (spec_MoveBoard.j0 k a1 a2 (!t196) a0_0 a0_1 l0_2) = some (r1, r2, r3, r4) := H
  have A12 := Aside0.mk A120
  clear A120
  have H' := Aside0.mk H
  clear H
  go_wp2_with (first | ((with_reducible refine gate_callee (f := 96) rfl ?_); refine goesL_ (some 15) rfl rfl Try.func96 (by kernel_rfl) rfl #[.int .i64 a1, .int .i64 (-24), .int .i64 24] rfl (by (try simp only [List.map_toArray, List.map_cons, List.map_nil]); first | done | rfl | (simp only [List.length_drop, List.length_take]; rfl)) ?_; (with_reducible refine (spec_l00In.calls a1 (-24) 24 true _ A10.out).mono ?_); rintro e w' ⟨rfl, ⟨nd, rfl⟩⟩; refine ⟨_, rfl, ?_⟩) | (go_at_call 96; (with_reducible refine (spec_l00In.calls a2 (-24) 24 t196 _ A12.out).mono ?_); rintro e w' ⟨rfl, ⟨nd, rfl⟩⟩))
  go_meet
  case rel => exact ⟨_, (!t196), (by first | rfl | (simp; done) | (simp [*]; done) | (exact congrArg (Value.int .i64) (wrap_eq (by omega)))), H', ⟨by first | omega | exact Nat.le_refl _⟩, zh BK192, zh BK193, zba⟩
 clear HC6
 try clear c1
 try clear p2
 try clear c5
 try clear c6
 try clear c9
 try clear c10
 try clear c11
 obtain ⟨kq, x21_5, rfl, HA, HJ5, BK192, BK193, HB⟩ := hcut
 cases kq with
 | zero => exact absurd HA.out (by simp [spec_MoveBoard.j0])
 | succ kj5 => ?_
 have H := HA.out
 clear HA
 simp only [spec_MoveBoard.j0] at H
 by_cases c13 : x21_5 = true
 ·subst c13
  have H1 : (some (0, 0, ([] : List (S91)), 2)) = some (r1, r2, r3, r4) := by rw [if_pos rfl] at H; exact H
  clear H
  have H := H1
  clear H1
  simp only [Option.some.injEq, Prod.mk.injEq] at H
  obtain ⟨rfl, rfl, rfl, rfl⟩ := H
  have hnb14 := NB193_192.out
  have hnc14 := NB192_193.out
  obtain ⟨z15_0, z15_1, z15_2, y15_0, y15_1, y15_2⟩ := zB3 BK193
  go_wp2
  refine bodyPost_ret (results_ct rfl _ _ gb193 37 #[.int .i8 0, .int .i8 0, .slice none 0 0] (0, 0) _ rfl (by (with_reducible repeat (first | refine blk_drewN ?_ _ | refine blk_drew ?_ | refine blk_alloc ?_ _)); refine blk_put (cs := #[.int .i8 0, .int .i8 0, .slice none 0 0]) ?_ 2 _ rfl; (with_reducible repeat (first | refine blk_drewN ?_ _ | refine blk_drew ?_ | refine blk_alloc ?_ _)); refine blk_put (cs := #[.int .i8 0, .int .i8 0, .slice none 0 0]) ?_ 1 _ rfl; (with_reducible repeat (first | refine blk_drewN ?_ _ | refine blk_drew ?_ | refine blk_alloc ?_ _)); refine blk_put (cs := #[.int .i8 0, .int .i8 0, .slice none 0 0]) ?_ 0 _ rfl; (with_reducible repeat (first | refine blk_drewN ?_ _ | refine blk_drew ?_ | refine blk_alloc ?_ _)); exact BK193.out) Try.underlying37 rfl (by kernel_rfl)) rfl ?_
  exact ⟨_, by first | rfl | (simp [errW_none, errW_some] <;> rfl) | (simp [*, errW_none, errW_some] <;> rfl), by first | exact Kd.R_nil _ _ _ _ _ | exact Kd.N_nil _ _ _ _ _ | exact Kd.V_nil _ _ _ _ _ | exact Kd.Q_nil _ _ _ _ _ | exact Kd.S_nil _ _ _ _ _, by repeat (first | (with_reducible first | exact HB.out | apply below_alloc | apply pw_below_drewN | apply below_drew1 | refine below_set ?_ GE192.out | refine below_set ?_ GE193.out) | exact HB.out)⟩
 replace c13 := Bool.eq_false_iff.mpr c13
 subst c13
 have H1 : ((spec_l01Copy.f [(⟨a0_0, a0_1, l0_2⟩ : S37)]).bind fun bt197 => (spec_MoveBoard.l0 kj5 a1 a2 0 bt197.1 bt197.2.1 bt197.2.2)) = some (r1, r2, r3, r4) := by rw [if_neg (show ¬ (false = true) by decide)] at H; exact H
 clear H
 have H := H1
 clear H1
 replace H := Option.bind_eq_some_iff.mp H
 obtain ⟨⟨t197, t198, t199⟩, A160, H⟩ := H
 replace H : (spec_MoveBoard.l0 kj5 a1 a2 0 t197 t198 t199) = some (r1, r2, r3, r4) := H
 have A16 := Aside0.mk A160
 clear A160
 have H' := Aside0.mk H
 clear H
 go_wp2_with (first | ((with_reducible refine gate_callee (f := 131) rfl ?_); refine goesL_ (some 23) rfl rfl Try.func131 (by kernel_rfl) rfl #[.pointer (some ⟨gb192, 0, none⟩)] rfl (by (try simp only [List.map_toArray, List.map_cons, List.map_nil]); first | done | rfl | (simp only [List.length_drop, List.length_take]; rfl)) ?_; (with_reducible refine (spec_l01Copy.calls _ [(⟨a0_0, a0_1, l0_2⟩ : S37)] t197 t198 t199 _ ?side1 A16.out).mono ?_); (case side1 => refine ro_of_blk (T := 37) (cs := #[.int .i8 a0_0, .int .i8 a0_1, .slice A0_2 l0_2.length c0_2]) (zh BK192).out ?_; exact k37_mk _ (⟨a0_0, a0_1, l0_2⟩ : S37) (by exact HC0_2.out) (by exact zcc HB HR0_2.out)); rintro e w17 ⟨v200, rfl, ho0, hb⟩; refine ⟨_, rfl, ?_⟩; have n_ : _ ∧ _ ∧ _ ∧ _ := ⟨Aside0.mk (Kd.R_lower ho0 (zz HB)), zk BK192 hb, zk BK193 hb, zbs hb⟩; clear BK192 BK193 HB; obtain ⟨HO201, BK192, BK193, HB⟩ := n_; (try clear hb); (try clear hb2); (try clear hk); (try clear hi); (try clear ho0)) | ((with_reducible refine gate_dst (N := 8) rfl ?_); refine box_event ?hg (N := 8) ?hd (cs := #[.int .i8 0, .int .i8 0, .slice none 0 0]) (t := 37) ?hr ?_; (case hd => rfl); (case hg => rfl); (case hr => first | (go_simp; done) | (go_simp; rfl)); intro gb202 hg w18 hbox hb; have n_ : _ ∧ _ ∧ _ ∧ _ ∧ _ ∧ _ ∧ _ ∧ _ ∧ _ ∧ _ ∧ _ := ⟨zr HO201 hb, zk BK192 hb, zk BK193 hb, zbs hb, Aside0.mk (hbox), zg HB hg, zg HB hg, zn1 BK192 hg, zn2 BK192 hg, zn1 BK193 hg, zn2 BK193 hg⟩; clear HO201 BK192 BK193 HB; obtain ⟨HO201, BK192, BK193, HB, BK202, GW202, GE202, NB192_202, NB202_192, NB193_202, NB202_193⟩ := n_; clear hb hbox hg; have hnb19 := NB202_192.out; have hnc19 := NB192_202.out; have hnb20 := NB202_193.out; have hnc20 := NB193_202.out; obtain ⟨z21_0, z21_1, z21_2, y21_0, y21_1, y21_2⟩ := zB3 BK202; obtain ⟨Ao22, co22, eo22⟩ := Kd.R_slice HO201.out; subst eo22))
 go_loopg [9] kj5 (fun kq v9 w' => ∃ (x9_2 : Int) (x203002_2 : List (S91)) (u203002 : Value), v9 = .int .i64 x9_2 ∧ Aside0 (spec_MoveBoard.l0 kq a1 a2 x9_2 t197 t198 x203002_2 = some (r1, r2, r3, r4)) ∧ Aside0 (kq ≤ kj5) ∧ Aside0 (Kd.R k91 91 w' w.heap.size (fun _ => True) u203002 x203002_2) ∧ Aside0 (w'.heap[gb192]? = some (.cells #[.int .i8 a0_0, .int .i8 a0_1, (.slice A0_2 l0_2.length c0_2)] 37 (0, 0))) ∧ Aside0 (w'.heap[gb193]? = some (.cells #[.int .i8 0, .int .i8 0, (.slice none 0 0)] 37 (0, 0))) ∧ Aside0 (w'.heap[gb202]? = some (.cells #[.int .i8 t197, .int .i8 t198, u203002] 37 (0, 0))) ∧ Aside0 (Below w.heap.size w w'))
 case atStart => exact ⟨(0), (t199), (.slice Ao22 t199.length co22), (by first | rfl | (simp; done) | (simp [*]; done) | (exact congrArg (Value.int .i64) (wrap_eq (by omega)))), H', ⟨Nat.le_refl _⟩, ⟨by (with_reducible repeat (first | apply Kd.R_alloc | apply Kd.R_drewN | apply Kd.R_drew)); exact Kd.R_mono (Kd.R_far (p := ⟨gb202, 2, none⟩) (Kd.R_far (p := ⟨gb202, 1, none⟩) (Kd.R_far (p := ⟨gb202, 0, none⟩) (Kd.R_types HO201.out BK202.out (by decide)) (fun _ hk => hk.2) (.int .i8 t197)) (fun _ hk => hk.2) (.int .i8 t198)) (fun _ hk => hk.2) (.slice Ao22 t199.length co22)) (fun _ hk => trivial)⟩, zf BK192 NB192_202, zf BK193 NB193_202, ⟨by (with_reducible repeat (first | refine blk_drewN ?_ _ | refine blk_drew ?_ | refine blk_alloc ?_ _)); refine blk_put (cs := #[.int .i8 t197, .int .i8 t198, .slice none 0 0]) ?_ 2 _ rfl; (with_reducible repeat (first | refine blk_drewN ?_ _ | refine blk_drew ?_ | refine blk_alloc ?_ _)); refine blk_put (cs := #[.int .i8 t197, .int .i8 0, .slice none 0 0]) ?_ 1 _ rfl; (with_reducible repeat (first | refine blk_drewN ?_ _ | refine blk_drew ?_ | refine blk_alloc ?_ _)); refine blk_put (cs := #[.int .i8 0, .int .i8 0, .slice none 0 0]) ?_ 0 _ rfl; (with_reducible repeat (first | refine blk_drewN ?_ _ | refine blk_drew ?_ | refine blk_alloc ?_ _)); exact BK202.out⟩, zba⟩
 clear H'
 try clear c1
 try clear c2
 try clear p2
 try clear c5
 try clear c6
 try clear c9
 try clear c10
 try clear c11
 try clear c13
 try clear c14
 try clear c19
 try clear c20
 try clear z15_0 z15_1 z15_2
 try clear z21_0 z21_1 z21_2
 try clear y15_0
 try clear y15_1
 try clear y15_2
 try clear y21_0
 try clear y21_1
 try clear y21_2
 try clear p2
 obtain ⟨x9_2, x203002_2, u203002, rfl, HA, HK2, HO_203002, BK192, BK193, BK202, HB⟩ := hrel
 cases gk with
 | zero => exact absurd HA.out (by simp [spec_MoveBoard.l0])
 | succ k2 => ?_
 have H := HA.out
 clear HA
 simp only [spec_MoveBoard.l0] at H
 by_cases c23 : x9_2 < (x203002_2.length : Int)
 rotate_left
 ·rw [if_neg c23] at H
  have c23b0 : decide (x9_2 < (x203002_2.length : Int)) = false := decide_eq_false c23
  clear c23
  replace H := Option.bind_eq_some_iff.mp H
  obtain ⟨t208, A360, H⟩ := H
  replace H : (if t208 = true then (some (t197, t198, x203002_2, 0)) else (some (0, 0, ([] : List (S91)), 4))) = some (r1, r2, r3, r4) := H
  have A36 := Aside0.mk A360
  clear A360
  by_cases c37 : t208 = true
  rotate_left
  ·replace c37 := Bool.eq_false_iff.mpr c37
   subst c37
   have H1 : (some (0, 0, ([] : List (S91)), 4)) = some (r1, r2, r3, r4) := by rw [if_neg (show ¬ (false = true) by decide)] at H; exact H
   clear H
   have H := H1
   clear H1
   simp only [Option.some.injEq, Prod.mk.injEq] at H
   obtain ⟨rfl, rfl, rfl, rfl⟩ := H
   have hnb46 := NB202_192.out
   have hnc46 := NB192_202.out
   have hnb47 := NB202_193.out
   have hnc47 := NB193_202.out
   obtain ⟨z48_0, z48_1, z48_2, y48_0, y48_1, y48_2⟩ := zB3 BK202
   obtain ⟨Ao49, co49, eo49⟩ := Kd.R_slice HO_203002.out
   subst eo49
   go_wp2_with (first | ((with_reducible refine gate_callee (f := 106) rfl ?_); refine goesL_ (some 54) rfl rfl Try.func106 (by kernel_rfl) rfl #[.pointer (some ⟨gb202, 0, none⟩)] rfl (by (try simp only [List.map_toArray, List.map_cons, List.map_nil]); first | done | rfl | (simp only [List.length_drop, List.length_take]; rfl)) ?_; (with_reducible refine (spec_l01Ok.calls k2 _ [(⟨t197, t198, x203002_2⟩ : S37)] false _ ?side1 A36.out).mono ?_); (case side1 => refine ro_of_blk (T := 37) (cs := #[.int .i8 t197, .int .i8 t198, .slice Ao49 x203002_2.length co49]) (zh BK202).out ?_; exact k37_mk _ (⟨t197, t198, x203002_2⟩ : S37) (by exact (Kd.R_reads' HO_203002.out).2.1) (by exact zrc HO_203002)); rintro e w50 ⟨rfl, hb⟩; refine ⟨_, rfl, ?_⟩; have n_ : _ ∧ _ ∧ _ ∧ _ ∧ _ := ⟨zr HO_203002 hb, zk BK192 hb, zk BK193 hb, zk BK202 hb, zbs hb⟩; clear HO_203002 BK192 BK193 BK202 HB; obtain ⟨HO_203002, BK192, BK193, BK202, HB⟩ := n_; (try clear hb); (try clear hb2); (try clear hk); (try clear hi); have hnb51 := NB193_192.out; have hnc51 := NB192_193.out; obtain ⟨z52_0, z52_1, z52_2, y52_0, y52_1, y52_2⟩ := zB3 BK193))
   refine bodyPost_ret (results_ct rfl _ _ gb193 37 #[.int .i8 0, .int .i8 0, .slice none 0 0] (0, 0) _ rfl (by (with_reducible repeat (first | refine blk_drewN ?_ _ | refine blk_drew ?_ | refine blk_alloc ?_ _)); refine blk_put (cs := #[.int .i8 0, .int .i8 0, .slice none 0 0]) ?_ 2 _ rfl; (with_reducible repeat (first | refine blk_drewN ?_ _ | refine blk_drew ?_ | refine blk_alloc ?_ _)); refine blk_put (cs := #[.int .i8 0, .int .i8 0, .slice none 0 0]) ?_ 1 _ rfl; (with_reducible repeat (first | refine blk_drewN ?_ _ | refine blk_drew ?_ | refine blk_alloc ?_ _)); refine blk_put (cs := #[.int .i8 0, .int .i8 0, .slice none 0 0]) ?_ 0 _ rfl; (with_reducible repeat (first | refine blk_drewN ?_ _ | refine blk_drew ?_ | refine blk_alloc ?_ _)); exact BK193.out) Try.underlying37 rfl (by kernel_rfl)) rfl ?_
   exact ⟨_, by first | rfl | (simp [errW_none, errW_some] <;> rfl) | (simp [*, errW_none, errW_some] <;> rfl), by first | exact Kd.R_nil _ _ _ _ _ | exact Kd.N_nil _ _ _ _ _ | exact Kd.V_nil _ _ _ _ _ | exact Kd.Q_nil _ _ _ _ _ | exact Kd.S_nil _ _ _ _ _, by repeat (first | (with_reducible first | exact HB.out | apply below_alloc | apply pw_below_drewN | apply below_drew1 | refine below_set ?_ GE192.out | refine below_set ?_ GE193.out | refine below_set ?_ GE202.out) | exact HB.out)⟩
  subst c37
  have H1 : (some (t197, t198, x203002_2, 0)) = some (r1, r2, r3, r4) := by rw [if_pos rfl] at H; exact H
  clear H
  have H := H1
  clear H1
  simp only [Option.some.injEq, Prod.mk.injEq] at H
  obtain ⟨rfl, rfl, rfl, rfl⟩ := H
  have hnb38 := NB202_192.out
  have hnc38 := NB192_202.out
  have hnb39 := NB202_193.out
  have hnc39 := NB193_202.out
  obtain ⟨z40_0, z40_1, z40_2, y40_0, y40_1, y40_2⟩ := zB3 BK202
  obtain ⟨Ao41, co41, eo41⟩ := Kd.R_slice HO_203002.out
  subst eo41
  go_wp2_with (first | ((with_reducible refine gate_callee (f := 106) rfl ?_); refine goesL_ (some 54) rfl rfl Try.func106 (by kernel_rfl) rfl #[.pointer (some ⟨gb202, 0, none⟩)] rfl (by (try simp only [List.map_toArray, List.map_cons, List.map_nil]); first | done | rfl | (simp only [List.length_drop, List.length_take]; rfl)) ?_; (with_reducible refine (spec_l01Ok.calls k2 _ [(⟨t197, t198, x203002_2⟩ : S37)] true _ ?side1 A36.out).mono ?_); (case side1 => refine ro_of_blk (T := 37) (cs := #[.int .i8 t197, .int .i8 t198, .slice Ao41 x203002_2.length co41]) (zh BK202).out ?_; exact k37_mk _ (⟨t197, t198, x203002_2⟩ : S37) (by exact (Kd.R_reads' HO_203002.out).2.1) (by exact zrc HO_203002)); rintro e w42 ⟨rfl, hb⟩; refine ⟨_, rfl, ?_⟩; have n_ : _ ∧ _ ∧ _ ∧ _ ∧ _ := ⟨zr HO_203002 hb, zk BK192 hb, zk BK193 hb, zk BK202 hb, zbs hb⟩; clear HO_203002 BK192 BK193 BK202 HB; obtain ⟨HO_203002, BK192, BK193, BK202, HB⟩ := n_; (try clear hb); (try clear hb2); (try clear hk); (try clear hi); obtain ⟨z43_0, z43_1, z43_2, y43_0, y43_1, y43_2⟩ := zB3 BK202; have hnb44 := NB193_192.out; have hnc44 := NB192_193.out; obtain ⟨z45_0, z45_1, z45_2, y45_0, y45_1, y45_2⟩ := zB3 BK193))
  refine bodyPost_ret (results_ct rfl _ _ gb193 37 #[.int .i8 t197, .int .i8 t198, .slice Ao41 x203002_2.length co41] (0, 0) _ rfl (by (with_reducible repeat (first | refine blk_drewN ?_ _ | refine blk_drew ?_ | refine blk_alloc ?_ _)); refine blk_put (cs := #[.int .i8 t197, .int .i8 t198, .slice none 0 0]) ?_ 2 _ rfl; (with_reducible repeat (first | refine blk_drewN ?_ _ | refine blk_drew ?_ | refine blk_alloc ?_ _)); refine blk_put (cs := #[.int .i8 t197, .int .i8 0, .slice none 0 0]) ?_ 1 _ rfl; (with_reducible repeat (first | refine blk_drewN ?_ _ | refine blk_drew ?_ | refine blk_alloc ?_ _)); refine blk_put (cs := #[.int .i8 0, .int .i8 0, .slice none 0 0]) ?_ 0 _ rfl; (with_reducible repeat (first | refine blk_drewN ?_ _ | refine blk_drew ?_ | refine blk_alloc ?_ _)); exact BK193.out) Try.underlying37 rfl (by kernel_rfl)) rfl ?_
  exact ⟨_, by first | rfl | (simp [errW_none, errW_some] <;> rfl) | (simp [*, errW_none, errW_some] <;> rfl), by (with_reducible repeat (first | apply Kd.R_alloc | apply Kd.R_drewN | apply Kd.R_drew)); exact Kd.R_mono (Kd.R_far (p := ⟨gb193, 2, none⟩) (Kd.R_far (p := ⟨gb193, 1, none⟩) (Kd.R_far (p := ⟨gb193, 0, none⟩) (Kd.R_types HO_203002.out BK193.out (by decide)) (fun _ hk => hk.2) (.int .i8 t197)) (fun _ hk => hk.2) (.int .i8 t198)) (fun _ hk => hk.2) (.slice Ao41 x203002_2.length co41)) (fun _ hk => trivial), by repeat (first | (with_reducible first | exact HB.out | apply below_alloc | apply pw_below_drewN | apply below_drew1 | refine below_set ?_ GE192.out | refine below_set ?_ GE193.out | refine below_set ?_ GE202.out) | exact HB.out)⟩
 rw [if_pos c23] at H
 have c23b0 : decide (x9_2 < (x203002_2.length : Int)) = true := decide_eq_true c23
 clear c23
 by_cases c24 : 0 ≤ x9_2
 rotate_left
 ·rw [if_neg c24] at H
  exact absurd H (by simp)
 rw [if_pos c24] at H
 have c24b0 : decide (0 ≤ x9_2) = true := decide_eq_true c24
 clear c24
 obtain ⟨y205, hy205⟩ : ∃ y_ : List (S91), y_ = (x203002_2.set (x9_2 : Int).toNat (⟨(⟨IntKind.i8.wrap (((rd_T91 x203002_2 x9_2).f0.f0) + (IntKind.i8.wrap (a1))), (rd_T91 x203002_2 x9_2).f0.f1⟩ : S74), (rd_T91 x203002_2 x9_2).f1, (rd_T91 x203002_2 x9_2).f2, (rd_T91 x203002_2 x9_2).f3⟩ : S91)) := ⟨_, rfl⟩
 replace H : (spec_MoveBoard.l0 k2 a1 a2 (wrap64 (x9_2 + 1)) t197 t198 (y205.set (x9_2 : Int).toNat (⟨(⟨(rd_T91 y205 x9_2).f0.f0, IntKind.i8.wrap (((rd_T91 y205 x9_2).f0.f1) + (IntKind.i8.wrap (a2)))⟩ : S74), (rd_T91 y205 x9_2).f1, (rd_T91 y205 x9_2).f2, (rd_T91 y205 x9_2).f3⟩ : S91))) = some (r1, r2, r3, r4) := by first | (rw [hy205]; with_reducible exact H) | (have H2_ := (Option.bind_some _ _).symm.trans H; rw [hy205]; with_reducible exact H2_) | (have H2_ := (Option.bind_some _ _).symm.trans H; with_reducible exact H2_) | with_reducible exact H | (rw [hy205]; exact H) | exact H
 have Ny205 := Aside0.mk hy205
 clear hy205
 obtain ⟨y207, hy207⟩ : ∃ y_ : List (S91), y_ = (y205.set (x9_2 : Int).toNat (⟨(⟨(rd_T91 y205 x9_2).f0.f0, IntKind.i8.wrap (((rd_T91 y205 x9_2).f0.f1) + (IntKind.i8.wrap (a2)))⟩ : S74), (rd_T91 y205 x9_2).f1, (rd_T91 y205 x9_2).f2, (rd_T91 y205 x9_2).f3⟩ : S91)) := ⟨_, rfl⟩
 replace H : (spec_MoveBoard.l0 k2 a1 a2 (wrap64 (x9_2 + 1)) t197 t198 y207) = some (r1, r2, r3, r4) := by first | (rw [hy207]; with_reducible exact H) | (have H2_ := (Option.bind_some _ _).symm.trans H; rw [hy207]; with_reducible exact H2_) | (have H2_ := (Option.bind_some _ _).symm.trans H; with_reducible exact H2_) | with_reducible exact H | (rw [hy207]; exact H) | exact H
 have Ny207 := Aside0.mk hy207
 clear hy207
 have H' := Aside0.mk H
 clear H
 have hnb27 := NB202_192.out
 have hnc27 := NB192_202.out
 have hnb28 := NB202_193.out
 have hnc28 := NB193_202.out
 obtain ⟨z29_0, z29_1, z29_2, y29_0, y29_1, y29_2⟩ := zB3 BK202
 obtain ⟨Ao30, co30, eo30⟩ := Kd.R_slice HO_203002.out
 subst eo30
 have p203 : 0 ≤ (x9_2 : Int) := of_decide_eq_true (by first | (with_reducible assumption) | assumption)
 have q203 : x9_2 < (x203002_2.length : Int) := of_decide_eq_true (by first | (with_reducible assumption) | assumption)
 obtain ⟨ad203, e203, hx203_0, hx203_1, hx203_2, hx203_3, hx203_4⟩ := at_T91 (Kd.R_reads' HO_203002.out).2.2 x9_2 p203 q203
 cases e203
 replace p203 := eq_true p203
 replace q203 := eq_true q203
 try go_wp2
 have n0_ := Aside0.mk (Kd.R_drew HO_203002.out)
 have n1_ := Aside0.mk (blk_drew BK192.out)
 have n2_ := Aside0.mk (blk_drew BK193.out)
 have n3_ := Aside0.mk (blk_drew BK202.out)
 have n4_ := Aside0.mk (below_drew1 HB.out)
 clear HO_203002
 clear BK192
 clear BK193
 clear BK202
 clear HB
 have HO_203002 := n0_
 have BK192 := n1_
 have BK193 := n2_
 have BK202 := n3_
 have HB := n4_
 clear n0_ n1_ n2_ n3_ n4_
 have p204 : 0 ≤ (x9_2 : Int) := of_decide_eq_true (by first | (with_reducible assumption) | assumption)
 have q204 : x9_2 < (x203002_2.length : Int) := of_decide_eq_true (by first | (with_reducible assumption) | assumption)
 obtain ⟨ad204, e204, hx204_0, hx204_1, hx204_2, hx204_3, hx204_4⟩ := at_T91 (Kd.R_reads' HO_203002.out).2.2 x9_2 p204 q204
 obtain rfl : ad203 = ad204 := (by injection e204)
 replace p204 := eq_true p204
 replace q204 := eq_true q204
 have p25 : 0 ≤ (x9_2 : Int) := of_decide_eq_true (by first | (with_reducible assumption) | assumption)
 have q25 : (x9_2 : Int) < ((x203002_2.length : Int) : Int) := of_decide_eq_true (by first | (with_reducible assumption) | assumption)
 obtain ⟨go25, co25, eo25, gb25, gl25, cl25, HG25⟩ := Kd.R_form HO_203002.out (by omega)
 (first | cases eo25 | (injection eo25 with ea_ en_ ec_; (first | subst ea_ | (injection ea_ with ea_; subst ea_)); subst ec_; clear en_))
 have GB25 := Aside0.mk gb25
 have GG25 := Aside0.mk HG25
 clear gb25 gl25 HG25
 (first | simp only [add_plain] at hx203_0 | skip)
 (first | simp only [add_plain] at hx203_1 | skip)
 (first | simp only [add_plain] at hx203_2 | skip)
 (first | simp only [add_plain] at hx203_3 | skip)
 (first | simp only [add_plain] at hx203_4 | skip)
 (first | simp only [add_plain] at hx204_0 | skip)
 (first | simp only [add_plain] at hx204_1 | skip)
 (first | simp only [add_plain] at hx204_2 | skip)
 (first | simp only [add_plain] at hx204_3 | skip)
 (first | simp only [add_plain] at hx204_4 | skip)
 obtain ⟨ce25, hcl25, hM25, hcc25, hfr25⟩ := Kd.R_elem HO_203002.out z91 (x9_2 : Int) p25 q25
 obtain rfl := k91_openM hM25
 have hx25_0 : World.cell? _ ⟨go25, (x9_2 : Int).toNat * 5, none⟩ = some (.int .i8 ((rd_T91 x203002_2 x9_2).f0.f0)) := hcc25 0 _ rfl
 have hx25_1 : World.cell? _ ⟨go25, (x9_2 : Int).toNat * 5 + 1, none⟩ = some (.int .i8 ((rd_T91 x203002_2 x9_2).f0.f1)) := hcc25 1 _ rfl
 have hx25_2 : World.cell? _ ⟨go25, (x9_2 : Int).toNat * 5 + 2, none⟩ = some (.int .i8 ((rd_T91 x203002_2 x9_2).f1)) := hcc25 2 _ rfl
 have hx25_3 : World.cell? _ ⟨go25, (x9_2 : Int).toNat * 5 + 3, none⟩ = some (.int .i8 ((rd_T91 x203002_2 x9_2).f2)) := hcc25 3 _ rfl
 have hx25_4 : World.cell? _ ⟨go25, (x9_2 : Int).toNat * 5 + 4, none⟩ = some (.int .i8 ((rd_T91 x203002_2 x9_2).f3)) := hcc25 4 _ rfl
 have hf25_0 : World.frozen? _ ⟨go25, (x9_2 : Int).toNat * 5, none⟩ = false := hfr25 0
 have hf25_1 : World.frozen? _ ⟨go25, (x9_2 : Int).toNat * 5 + 1, none⟩ = false := hfr25 1
 have hf25_2 : World.frozen? _ ⟨go25, (x9_2 : Int).toNat * 5 + 2, none⟩ = false := hfr25 2
 have hf25_3 : World.frozen? _ ⟨go25, (x9_2 : Int).toNat * 5 + 3, none⟩ = false := hfr25 3
 have hf25_4 : World.frozen? _ ⟨go25, (x9_2 : Int).toNat * 5 + 4, none⟩ = false := hfr25 4
 clear hcl25 hcc25 hfr25 hM25
 replace p25 := eq_true p25
 replace q25 := eq_true q25
 obtain ⟨ce32, hcl32, hM32, hcc32, hfr32⟩ := Kd.R_elem HO_203002.out z91 (x9_2 : Int) (of_decide_eq_true (by first | (with_reducible assumption) | assumption)) (by have h_ : (x9_2 : Int) < ((x203002_2.length : Int) : Int) := of_decide_eq_true (by first | (with_reducible assumption) | assumption); first | exact h_ | (have e_ := (Kd.R_reads' HO_203002.out).1; omega) | simpa using h_)
 obtain rfl := k91_openM hM32
 have HP32 := (Kd.R_seg HO_203002.out (x9_2 : Int) (of_decide_eq_true (by first | (with_reducible assumption) | assumption)) (by have h_ : (x9_2 : Int) < ((x203002_2.length : Int) : Int) := of_decide_eq_true (by first | (with_reducible assumption) | assumption); first | exact h_ | (have e_ := (Kd.R_reads' HO_203002.out).1; omega) | simpa using h_) (seg := [.int .i8 (IntKind.i8.wrap (((rd_T91 x203002_2 x9_2).f0.f0) + (IntKind.i8.wrap (a1))))]) (j := 0) hcl32 hcc32 (show 1 ≤ 5 from by decide) (x' := (⟨(⟨IntKind.i8.wrap (((rd_T91 x203002_2 x9_2).f0.f0) + (IntKind.i8.wrap (a1))), (rd_T91 x203002_2 x9_2).f0.f1⟩ : S74), (rd_T91 x203002_2 x9_2).f1, (rd_T91 x203002_2 x9_2).f2, (rd_T91 x203002_2 x9_2).f3⟩ : S91)) (k91_mkM _ _ _ (⟨(⟨IntKind.i8.wrap (((rd_T91 x203002_2 x9_2).f0.f0) + (IntKind.i8.wrap (a1))), (rd_T91 x203002_2 x9_2).f0.f1⟩ : S74), (rd_T91 x203002_2 x9_2).f1, (rd_T91 x203002_2 x9_2).f2, (rd_T91 x203002_2 x9_2).f3⟩ : S91) ) (fun _ hk => hk)).1
 rw [← Ny205.out] at HP32
 have HQ32 := Aside0.mk HP32
 clear hcl32 hcc32 hfr32 hM32 HP32
 refine start_ (n := 10) (S := fun w' => w'.cell? ⟨go25, ((x9_2).toNat * 5), none⟩ = some (.int .i8 ((rd_T91 x203002_2 x9_2).f0.f0)) ∧ w'.cell? ⟨go25, ((x9_2).toNat * 5) + 1, none⟩ = some (.int .i8 ((rd_T91 x203002_2 x9_2).f0.f1)) ∧ w'.cell? ⟨go25, ((x9_2).toNat * 5) + 2, none⟩ = some (.int .i8 ((rd_T91 x203002_2 x9_2).f1)) ∧ w'.cell? ⟨go25, ((x9_2).toNat * 5) + 3, none⟩ = some (.int .i8 ((rd_T91 x203002_2 x9_2).f2)) ∧ w'.cell? ⟨go25, ((x9_2).toNat * 5) + 4, none⟩ = some (.int .i8 ((rd_T91 x203002_2 x9_2).f3))) (ds := [9]) (zq 10 0) (by kernel_rfl) rfl rfl ⟨hx204_0, hx204_1, hx204_2, hx204_3, hx204_4⟩ (fun hHeld => ?_); refine with_tabW spec_MoveBoard.tab10 spec_MoveBoard.bits10 (fun HT_ HW_ => ?_)
 generalize wr.drew = w31 at HO_203002 BK192 BK193 BK202 HB GG25 HQ32 hf25_0 hf25_1 hf25_2 hf25_3 hf25_4 hx203_0 hx203_1 hx203_2 hx203_3 hx203_4 hx204_0 hx204_1 hx204_2 hx204_3 hx204_4 hx25_0 hx25_1 hx25_2 hx25_3 hx25_4 hHeld ⊢
 refine zpu 0 (some 36) (zq 10 1) HT_ ?_
 refine zpu 1 (some 37) (zq 10 3) HT_ ?_
 refine zpu 2 (some 38) (zq 10 7) HT_ ?_
 refine zpu 4 (some 40) (zq 10 23) HT_ ?_
 refine zpu 5 (some 41) (zq 10 55) HT_ ?_
 refine zpu 7 (some 43) (zq 10 183) HT_ ?_
 refine ztk 3 (some 39) (zq 10 191) HT_ HW_ rfl hHeld (Or.inl ⟨by rfl, by (rintro w' ⟨s0, s1, s2, s3, s4⟩; go_simp; with_reducible rfl)⟩) ?_
 refine zpu 6 (some 42) (zq 10 255) HT_ ?_
 refine zpu 8 (some 44) (zq 10 511) HT_ ?_
 refine last_ (i := 9) (N := none) (zq 10 1023) rfl rfl (one_of HT_.out (by kernel_rfl)) (by decide) (fun K hK => ?_)
 refine skip_ (w1 := ?_) (by rfl) rfl ?_ ?_
 rotate_left
 ·go_simp
  rfl
 refine hK.out _ _ ?_
 clear hK K
 refine done_ (done_of HT_.out (by kernel_rfl)) ?_
 try go_wp2
 have n0_ : Aside0 (Kd.R k91 91 (w31.setCell ⟨go25, (x9_2 : Int).toNat * 5, none⟩ (.int .i8 (IntKind.i8.wrap (((rd_T91 x203002_2 x9_2).f0.f0) + (IntKind.i8.wrap (a1)))))) w.heap.size (fun _ => True) (.slice (some ⟨go25, 0, none⟩) x203002_2.length co30) y205) := ⟨HQ32.out⟩
 have n1_ : Aside0 ((w31.setCell ⟨go25, (x9_2 : Int).toNat * 5, none⟩ (.int .i8 (IntKind.i8.wrap (((rd_T91 x203002_2 x9_2).f0.f0) + (IntKind.i8.wrap (a1)))))).heap[gb192]? = some (.cells #[.int .i8 a0_0, .int .i8 a0_1, .slice A0_2 l0_2.length c0_2] 37 (0, 0))) := ⟨by (with_reducible repeat (first | refine blk_drewN ?_ _ | refine blk_drew ?_ | refine blk_alloc ?_ _)); refine blk_far ?_ (by have h_ := Kd.R_ne HO_203002.out BK192.out (by decide); intro e_; exact h_ (by rw [e_]; rfl)) _; (with_reducible repeat (first | refine blk_drewN ?_ _ | refine blk_drew ?_ | refine blk_alloc ?_ _)); exact BK192.out⟩
 have n2_ : Aside0 ((w31.setCell ⟨go25, (x9_2 : Int).toNat * 5, none⟩ (.int .i8 (IntKind.i8.wrap (((rd_T91 x203002_2 x9_2).f0.f0) + (IntKind.i8.wrap (a1)))))).heap[gb193]? = some (.cells #[.int .i8 0, .int .i8 0, .slice none 0 0] 37 (0, 0))) := ⟨by (with_reducible repeat (first | refine blk_drewN ?_ _ | refine blk_drew ?_ | refine blk_alloc ?_ _)); refine blk_far ?_ (by have h_ := Kd.R_ne HO_203002.out BK193.out (by decide); intro e_; exact h_ (by rw [e_]; rfl)) _; (with_reducible repeat (first | refine blk_drewN ?_ _ | refine blk_drew ?_ | refine blk_alloc ?_ _)); exact BK193.out⟩
 have n3_ : Aside0 ((w31.setCell ⟨go25, (x9_2 : Int).toNat * 5, none⟩ (.int .i8 (IntKind.i8.wrap (((rd_T91 x203002_2 x9_2).f0.f0) + (IntKind.i8.wrap (a1)))))).heap[gb202]? = some (.cells #[.int .i8 t197, .int .i8 t198, .slice (some ⟨go25, 0, none⟩) x203002_2.length co30] 37 (0, 0))) := ⟨by (with_reducible repeat (first | refine blk_drewN ?_ _ | refine blk_drew ?_ | refine blk_alloc ?_ _)); refine blk_far ?_ (by have h_ := Kd.R_ne HO_203002.out BK202.out (by decide); intro e_; exact h_ (by rw [e_]; rfl)) _; (with_reducible repeat (first | refine blk_drewN ?_ _ | refine blk_drew ?_ | refine blk_alloc ?_ _)); exact BK202.out⟩
 have n4_ : Aside0 (Below w.heap.size w (w31.setCell ⟨go25, (x9_2 : Int).toNat * 5, none⟩ (.int .i8 (IntKind.i8.wrap (((rd_T91 x203002_2 x9_2).f0.f0) + (IntKind.i8.wrap (a1))))))) := zba
 (try clear HO_203002)
 (try clear BK192)
 (try clear BK193)
 (try clear BK202)
 (try clear HB)
 generalize (w31.setCell ⟨go25, (x9_2 : Int).toNat * 5, none⟩ (.int .i8 (IntKind.i8.wrap (((rd_T91 x203002_2 x9_2).f0.f0) + (IntKind.i8.wrap (a1)))))) = w33 at n0_ n1_ n2_ n3_ n4_ ⊢
 have HO_203002 := n0_
 have BK192 := n1_
 have BK193 := n2_
 have BK202 := n3_
 have HB := n4_
 clear n0_ n1_ n2_ n3_ n4_
 have n0_ := Aside0.mk (Kd.R_drew HO_203002.out)
 have n1_ := Aside0.mk (blk_drew BK192.out)
 have n2_ := Aside0.mk (blk_drew BK193.out)
 have n3_ := Aside0.mk (blk_drew BK202.out)
 have n4_ := Aside0.mk (below_drew1 HB.out)
 clear HO_203002
 clear BK192
 clear BK193
 clear BK202
 clear HB
 have HO_203002 := n0_
 have BK192 := n1_
 have BK193 := n2_
 have BK202 := n3_
 have HB := n4_
 clear n0_ n1_ n2_ n3_ n4_
 have p206 : 0 ≤ (x9_2 : Int) := of_decide_eq_true (by first | (with_reducible assumption) | assumption)
 have q206 : x9_2 < (y205.length : Int) := (by have h_ : (x9_2 : Int) < ((x203002_2.length : Int) : Int) := of_decide_eq_true (by first | (with_reducible assumption) | assumption); first | (have e_ := (Kd.R_reads' HO_203002.out).1; omega) | simpa only [Ny205.out, List.length_set] using h_)
 have ql206 : ((x9_2 : Int) < ((x203002_2.length : Int) : Int)) = True := eq_true (of_decide_eq_true (by first | (with_reducible assumption) | assumption))
 obtain ⟨ad206, e206, hx206_0, hx206_1, hx206_2, hx206_3, hx206_4⟩ := at_T91 (Kd.R_reads' HO_203002.out).2.2 x9_2 p206 q206
 obtain rfl : (⟨go25, 0, none⟩ : Addr) = ad206 := (by injection e206)
 (first | simp only [add_plain] at hx206_0 | simp only [add_at] at hx206_0 | simp only [Addr.add, Nat.zero_add] at hx206_0 | skip)
 (first | simp only [add_plain] at hx206_1 | simp only [add_at] at hx206_1 | simp only [Addr.add, Nat.zero_add] at hx206_1 | skip)
 (first | simp only [add_plain] at hx206_2 | simp only [add_at] at hx206_2 | simp only [Addr.add, Nat.zero_add] at hx206_2 | skip)
 (first | simp only [add_plain] at hx206_3 | simp only [add_at] at hx206_3 | simp only [Addr.add, Nat.zero_add] at hx206_3 | skip)
 (first | simp only [add_plain] at hx206_4 | simp only [add_at] at hx206_4 | simp only [Addr.add, Nat.zero_add] at hx206_4 | skip)
 replace p206 := eq_true p206
 replace q206 := eq_true q206
 have p26 : 0 ≤ (x9_2 : Int) := of_decide_eq_true (by first | (with_reducible assumption) | assumption)
 have q26 : (x9_2 : Int) < ((x203002_2.length : Int) : Int) := of_decide_eq_true (by first | (with_reducible assumption) | assumption)
 obtain ⟨ce26, hcl26, hM26, hcc26, hfr26⟩ := Kd.R_elem HO_203002.out z91 (x9_2 : Int) p26 q26
 obtain rfl := k91_openM hM26
 have hx26_0 : World.cell? _ ⟨go25, (x9_2 : Int).toNat * 5, none⟩ = some (.int .i8 ((rd_T91 y205 x9_2).f0.f0)) := hcc26 0 _ rfl
 have hx26_1 : World.cell? _ ⟨go25, (x9_2 : Int).toNat * 5 + 1, none⟩ = some (.int .i8 ((rd_T91 y205 x9_2).f0.f1)) := hcc26 1 _ rfl
 have hx26_2 : World.cell? _ ⟨go25, (x9_2 : Int).toNat * 5 + 2, none⟩ = some (.int .i8 ((rd_T91 y205 x9_2).f1)) := hcc26 2 _ rfl
 have hx26_3 : World.cell? _ ⟨go25, (x9_2 : Int).toNat * 5 + 3, none⟩ = some (.int .i8 ((rd_T91 y205 x9_2).f2)) := hcc26 3 _ rfl
 have hx26_4 : World.cell? _ ⟨go25, (x9_2 : Int).toNat * 5 + 4, none⟩ = some (.int .i8 ((rd_T91 y205 x9_2).f3)) := hcc26 4 _ rfl
 have hf26_0 : World.frozen? _ ⟨go25, (x9_2 : Int).toNat * 5, none⟩ = false := hfr26 0
 have hf26_1 : World.frozen? _ ⟨go25, (x9_2 : Int).toNat * 5 + 1, none⟩ = false := hfr26 1
 have hf26_2 : World.frozen? _ ⟨go25, (x9_2 : Int).toNat * 5 + 2, none⟩ = false := hfr26 2
 have hf26_3 : World.frozen? _ ⟨go25, (x9_2 : Int).toNat * 5 + 3, none⟩ = false := hfr26 3
 have hf26_4 : World.frozen? _ ⟨go25, (x9_2 : Int).toNat * 5 + 4, none⟩ = false := hfr26 4
 clear hcl26 hcc26 hfr26 hM26
 replace p26 := eq_true p26
 replace q26 := eq_true q26
 obtain ⟨ce35, hcl35, hM35, hcc35, hfr35⟩ := Kd.R_elem HO_203002.out z91 (x9_2 : Int) (of_decide_eq_true (by first | (with_reducible assumption) | assumption)) (by have h_ : (x9_2 : Int) < ((x203002_2.length : Int) : Int) := of_decide_eq_true (by first | (with_reducible assumption) | assumption); first | exact h_ | (have e_ := (Kd.R_reads' HO_203002.out).1; omega) | simpa using h_)
 obtain rfl := k91_openM hM35
 have HP35 := (Kd.R_seg HO_203002.out (x9_2 : Int) (of_decide_eq_true (by first | (with_reducible assumption) | assumption)) (by have h_ : (x9_2 : Int) < ((x203002_2.length : Int) : Int) := of_decide_eq_true (by first | (with_reducible assumption) | assumption); first | exact h_ | (have e_ := (Kd.R_reads' HO_203002.out).1; omega) | simpa using h_) (seg := [.int .i8 (IntKind.i8.wrap (((rd_T91 y205 x9_2).f0.f1) + (IntKind.i8.wrap (a2))))]) (j := 1) hcl35 hcc35 (show 2 ≤ 5 from by decide) (x' := (⟨(⟨(rd_T91 y205 x9_2).f0.f0, IntKind.i8.wrap (((rd_T91 y205 x9_2).f0.f1) + (IntKind.i8.wrap (a2)))⟩ : S74), (rd_T91 y205 x9_2).f1, (rd_T91 y205 x9_2).f2, (rd_T91 y205 x9_2).f3⟩ : S91)) (k91_mkM _ _ _ (⟨(⟨(rd_T91 y205 x9_2).f0.f0, IntKind.i8.wrap (((rd_T91 y205 x9_2).f0.f1) + (IntKind.i8.wrap (a2)))⟩ : S74), (rd_T91 y205 x9_2).f1, (rd_T91 y205 x9_2).f2, (rd_T91 y205 x9_2).f3⟩ : S91) ) (fun _ hk => hk)).1
 rw [← Ny207.out] at HP35
 have HQ35 := Aside0.mk HP35
 clear hcl35 hcc35 hfr35 hM35 HP35
 refine start_ (n := 10) (S := fun w' => w'.cell? ⟨go25, (x9_2).toNat * 5, none⟩ = some (.int .i8 ((rd_T91 y205 x9_2).f0.f0)) ∧ w'.cell? ⟨go25, (x9_2).toNat * 5 + 1, none⟩ = some (.int .i8 ((rd_T91 y205 x9_2).f0.f1)) ∧ w'.cell? ⟨go25, (x9_2).toNat * 5 + 2, none⟩ = some (.int .i8 ((rd_T91 y205 x9_2).f1)) ∧ w'.cell? ⟨go25, (x9_2).toNat * 5 + 3, none⟩ = some (.int .i8 ((rd_T91 y205 x9_2).f2)) ∧ w'.cell? ⟨go25, (x9_2).toNat * 5 + 4, none⟩ = some (.int .i8 ((rd_T91 y205 x9_2).f3))) (ds := [9]) (zq 10 0) (by kernel_rfl) rfl rfl ⟨hx206_0, hx206_1, hx206_2, hx206_3, hx206_4⟩ (fun hHeld => ?_); refine with_tabW spec_MoveBoard.tab11 spec_MoveBoard.bits11 (fun HT_ HW_ => ?_)
 generalize w33.drew = w34 at HO_203002 BK192 BK193 BK202 HB HQ32 HQ35 hf26_0 hf26_1 hf26_2 hf26_3 hf26_4 hx206_0 hx206_1 hx206_2 hx206_3 hx206_4 hx26_0 hx26_1 hx26_2 hx26_3 hx26_4 hHeld ⊢
 refine zpu 0 (some 45) (zq 10 1) HT_ ?_
 refine zpu 1 (some 46) (zq 10 3) HT_ ?_
 refine zpu 2 (some 47) (zq 10 7) HT_ ?_
 refine zpu 4 (some 49) (zq 10 23) HT_ ?_
 refine zpu 5 (some 50) (zq 10 55) HT_ ?_
 refine zpu 7 (some 52) (zq 10 183) HT_ ?_
 refine ztk 3 (some 48) (zq 10 191) HT_ HW_ rfl hHeld (Or.inl ⟨by rfl, by (rintro w' ⟨s0, s1, s2, s3, s4⟩; go_simp; with_reducible rfl)⟩) ?_
 refine zpu 6 (some 51) (zq 10 255) HT_ ?_
 refine zpu 8 (some 53) (zq 10 511) HT_ ?_
 refine last_ (i := 9) (N := none) (zq 10 1023) rfl rfl (one_of HT_.out (by kernel_rfl)) (by decide) (fun K hK => ?_)
 refine skip_ (w1 := ?_) (by rfl) rfl ?_ ?_
 rotate_left
 ·go_simp
  rfl
 refine hK.out _ _ ?_
 clear hK K
 refine done_ (done_of HT_.out (by kernel_rfl)) ?_
 try go_wp2
 go_roundg k2
 case measure => have := HJ5.out; have := HK2.out; omega
 case rel => exact ⟨(wrap64 (x9_2 + 1)), (y207), (.slice (some ⟨go25, 0, none⟩) x203002_2.length co30), (by first | rfl | (simp; done) | (simp [*]; done) | (exact congrArg (Value.int .i64) (wrap_eq (by omega)))), H', ⟨by have := HJ5.out; have := HK2.out; omega⟩, ⟨HQ35.out⟩, ⟨by (with_reducible repeat (first | refine blk_drewN ?_ _ | refine blk_drew ?_ | refine blk_alloc ?_ _)); refine blk_far ?_ (by have h_ := Kd.R_ne HO_203002.out BK192.out (by decide); intro e_; exact h_ (by rw [e_]; rfl)) _; (with_reducible repeat (first | refine blk_drewN ?_ _ | refine blk_drew ?_ | refine blk_alloc ?_ _)); exact BK192.out⟩, ⟨by (with_reducible repeat (first | refine blk_drewN ?_ _ | refine blk_drew ?_ | refine blk_alloc ?_ _)); refine blk_far ?_ (by have h_ := Kd.R_ne HO_203002.out BK193.out (by decide); intro e_; exact h_ (by rw [e_]; rfl)) _; (with_reducible repeat (first | refine blk_drewN ?_ _ | refine blk_drew ?_ | refine blk_alloc ?_ _)); exact BK193.out⟩, ⟨by (with_reducible repeat (first | refine blk_drewN ?_ _ | refine blk_drew ?_ | refine blk_alloc ?_ _)); refine blk_far ?_ (by have h_ := Kd.R_ne HO_203002.out BK202.out (by decide); intro e_; exact h_ (by rw [e_]; rfl)) _; (with_reducible repeat (first | refine blk_drewN ?_ _ | refine blk_drew ?_ | refine blk_alloc ?_ _)); exact BK202.out⟩, zba⟩
/-! ### impl_in: function 98 -/
def impl_in.f (a0 : Int) (a1 : Int) (a2 : Int) : Option (Bool) := if a0 ≥ a1 then (some (decide (a0 ≤ a2))) else (some false)
set_option maxHeartbeats 8000000 in
set_option maxRecDepth 100000 in
theorem impl_in.calls (a0 : Int) (a1 : Int) (a2 : Int) (r : Bool) (w : World) (h : impl_in.f a0 a1 a2 = some r) :
    Calls Try.prog 98 #[.int .i64 a0, .int .i64 a1, .int .i64 a2] w fun e w' => e = .returned (.bool r) ∧ Drawn0 w w' := by
 have H : (if a0 ≥ a1 then (some (decide (a0 ≤ a2))) else (some false)) = some r := h
 clear h
 by_cases c4 : a0 ≥ a1
 ·rw [if_pos c4] at H
  have c4b0 : decide (a1 ≤ a0) = true := decide_eq_true c4
  clear c4
  obtain rfl := Option.some.inj H
  go_enter Try.func98, Try.ntmps98
  go_wp2
  go_ret
  exact ⟨by first | rfl | (simp; done) | (simp [*]; done) | (exact congrArg (Value.int .i64) (wrap_eq (by omega))), by repeat (first | exact Drawn0.refl _ | apply Drawn0.step)⟩
 rw [if_neg c4] at H
 have c4b0 : decide (a1 ≤ a0) = false := decide_eq_false c4
 clear c4
 obtain rfl := Option.some.inj H
 go_enter Try.func98, Try.ntmps98
 go_wp2
 go_ret
 exact ⟨by first | rfl | (simp; done) | (simp [*]; done) | (exact congrArg (Value.int .i64) (wrap_eq (by omega))), by repeat (first | exact Drawn0.refl _ | apply Drawn0.step)⟩
/-! ### impl_Cell_placed: function 164 -/
def impl_Cell_placed.f (a0_0 : Int) (a0_1 : Int) : Option (Bool) := (impl_in.f (wrap64 (a0_0)) 0 23).bind fun t210 => (if t210 = true then ((impl_in.f (wrap64 (a0_1)) 0 23).bind fun t211 => (some t211)) else (some false))
set_option maxHeartbeats 8000000 in
set_option maxRecDepth 100000 in
theorem impl_Cell_placed.calls (a0_0 : Int) (a0_1 : Int) (r : Bool) (w : World) (h : impl_Cell_placed.f a0_0 a0_1 = some r) :
    Calls Try.prog 164 #[.agg #[.int .i8 a0_0, .int .i8 a0_1]] w fun e w' => e = .returned (.bool r) ∧ Below w.heap.size w w' := by
 have hu74 := Try.underlying74
 have HB := Aside0.mk (Below.refl w.heap.size w)
 have H : ((impl_in.f (wrap64 (a0_0)) 0 23).bind fun t210 => (if t210 = true then ((impl_in.f (wrap64 (a0_1)) 0 23).bind fun t211 => (some t211)) else (some false))) = some r := h
 clear h
 replace H := Option.bind_eq_some_iff.mp H
 obtain ⟨t210, A20, H⟩ := H
 replace H : (if t210 = true then ((impl_in.f (wrap64 (a0_1)) 0 23).bind fun t211 => (some t211)) else (some false)) = some r := H
 have A2 := Aside0.mk A20
 clear A20
 by_cases c3 : t210 = true
 rotate_left
 ·replace c3 := Bool.eq_false_iff.mpr c3
  subst c3
  have H1 : (some false) = some r := by rw [if_neg (show ¬ (false = true) by decide)] at H; exact H
  clear H
  have H := H1
  clear H1
  obtain rfl := Option.some.inj H
  go_enter Try.func164, Try.ntmps164
  go_wp2_with (first | ((with_reducible refine gate_dst (N := 1) rfl ?_); refine box_event ?hg (N := 1) ?hd (cs := #[.int .i8 a0_0, .int .i8 a0_1]) (t := 74) ?hr ?_; (case hd => rfl); (case hg => rfl); (case hr => first | (go_simp; done) | (go_simp; rfl)); intro gb209 hg w7 hbox hb; have n_ : _ ∧ _ ∧ _ ∧ _ := ⟨zb HB hb, Aside0.mk (hbox), zg HB hg, zg HB hg⟩; clear HB; obtain ⟨HB, BK209, GW209, GE209⟩ := n_; clear hb hbox hg; obtain ⟨z8_0, z8_1, y8_0, y8_1⟩ := zB2 BK209) | ((with_reducible refine gate_callee (f := 98) rfl ?_); refine goesL_ (some 6) rfl rfl Try.func98 (by kernel_rfl) rfl #[.int .i64 (wrap64 (a0_0)), .int .i64 0, .int .i64 23] rfl (by (try simp only [List.map_toArray, List.map_cons, List.map_nil]); first | done | rfl | (simp only [List.length_drop, List.length_take]; rfl)) ?_; (with_reducible refine (impl_in.calls (wrap64 (a0_0)) 0 23 false _ A2.out).mono ?_); rintro e w' ⟨rfl, ⟨nd, rfl⟩⟩; refine ⟨_, rfl, ?_⟩))
  go_ret
  exact ⟨by first | rfl | (simp [errW_none, errW_some] <;> rfl) | (simp [*, errW_none, errW_some] <;> rfl), by repeat (first | (with_reducible first | exact HB.out | apply below_alloc | apply pw_below_drewN | apply below_drew1 | refine below_set ?_ GE209.out) | exact HB.out)⟩
 subst c3
 have H1 : ((impl_in.f (wrap64 (a0_1)) 0 23).bind fun t211 => (some t211)) = some r := by rw [if_pos rfl] at H; exact H
 clear H
 have H := H1
 clear H1
 replace H := Option.bind_eq_some_iff.mp H
 obtain ⟨t211, A40, H⟩ := H
 replace H : (some t211) = some r := H
 have A4 := Aside0.mk A40
 clear A40
 obtain rfl := Option.some.inj H
 go_enter Try.func164, Try.ntmps164
 go_wp2_with (first | ((with_reducible refine gate_dst (N := 1) rfl ?_); refine box_event ?hg (N := 1) ?hd (cs := #[.int .i8 a0_0, .int .i8 a0_1]) (t := 74) ?hr ?_; (case hd => rfl); (case hg => rfl); (case hr => first | (go_simp; done) | (go_simp; rfl)); intro gb209 hg w5 hbox hb; have n_ : _ ∧ _ ∧ _ ∧ _ := ⟨zb HB hb, Aside0.mk (hbox), zg HB hg, zg HB hg⟩; clear HB; obtain ⟨HB, BK209, GW209, GE209⟩ := n_; clear hb hbox hg; obtain ⟨z6_0, z6_1, y6_0, y6_1⟩ := zB2 BK209) | ((with_reducible refine gate_callee (f := 98) rfl ?_); refine goesL_ (some 6) rfl rfl Try.func98 (by kernel_rfl) rfl #[.int .i64 (wrap64 (a0_0)), .int .i64 0, .int .i64 23] rfl (by (try simp only [List.map_toArray, List.map_cons, List.map_nil]); first | done | rfl | (simp only [List.length_drop, List.length_take]; rfl)) ?_; (with_reducible refine (impl_in.calls (wrap64 (a0_0)) 0 23 true _ A2.out).mono ?_); rintro e w' ⟨rfl, ⟨nd, rfl⟩⟩; refine ⟨_, rfl, ?_⟩) | (go_at_call 98; (with_reducible refine (impl_in.calls (wrap64 (a0_1)) 0 23 t211 _ A4.out).mono ?_); rintro e w' ⟨rfl, ⟨nd, rfl⟩⟩))
 go_ret
 exact ⟨by first | rfl | (simp [errW_none, errW_some] <;> rfl) | (simp [*, errW_none, errW_some] <;> rfl), by repeat (first | (with_reducible first | exact HB.out | apply below_alloc | apply pw_below_drewN | apply below_drew1 | refine below_set ?_ GE209.out) | exact HB.out)⟩
/-! ### impl_ValidPiece: function 108 -/
def impl_ValidPiece.f (a0_0 : Int) (a0_1 : Int) (a0_2 : Int) (a0_3 : Int) (a0_4 : Int) : Option (Bool) := (impl_in.f (wrap64 (a0_2)) 0 5).bind fun t213 => (if t213 = true then ((impl_in.f (wrap64 (a0_3)) 0 3).bind fun t214 => (if t214 = true then ((impl_in.f (wrap64 (a0_4)) 1 9).bind fun t215 => (if t215 = true then ((impl_Cell_placed.f a0_0 a0_1).bind fun t216 => (some t216)) else (some false))) else (some false))) else (some false))
set_option maxHeartbeats 8000000 in
set_option maxRecDepth 100000 in
theorem impl_ValidPiece.calls (a0_0 : Int) (a0_1 : Int) (a0_2 : Int) (a0_3 : Int) (a0_4 : Int) (r : Bool) (w : World) (h : impl_ValidPiece.f a0_0 a0_1 a0_2 a0_3 a0_4 = some r) :
    Calls Try.prog 108 #[.agg #[.int .i8 a0_0, .int .i8 a0_1, .int .i8 a0_2, .int .i8 a0_3, .int .i8 a0_4]] w fun e w' => e = .returned (.bool r) ∧ Below w.heap.size w w' := by
 have hu91 := Try.underlying91
 have hu74 := Try.underlying74
 have HB := Aside0.mk (Below.refl w.heap.size w)
 have H : ((impl_in.f (wrap64 (a0_2)) 0 5).bind fun t213 => (if t213 = true then ((impl_in.f (wrap64 (a0_3)) 0 3).bind fun t214 => (if t214 = true then ((impl_in.f (wrap64 (a0_4)) 1 9).bind fun t215 => (if t215 = true then ((impl_Cell_placed.f a0_0 a0_1).bind fun t216 => (some t216)) else (some false))) else (some false))) else (some false))) = some r := h
 clear h
 replace H := Option.bind_eq_some_iff.mp H
 obtain ⟨t213, A20, H⟩ := H
 replace H : (if t213 = true then ((impl_in.f (wrap64 (a0_3)) 0 3).bind fun t214 => (if t214 = true then ((impl_in.f (wrap64 (a0_4)) 1 9).bind fun t215 => (if t215 = true then ((impl_Cell_placed.f a0_0 a0_1).bind fun t216 => (some t216)) else (some false))) else (some false))) else (some false)) = some r := H
 have A2 := Aside0.mk A20
 clear A20
 by_cases c3 : t213 = true
 rotate_left
 ·replace c3 := Bool.eq_false_iff.mpr c3
  subst c3
  have H1 : (some false) = some r := by rw [if_neg (show ¬ (false = true) by decide)] at H; exact H
  clear H
  have H := H1
  clear H1
  obtain rfl := Option.some.inj H
  go_enter Try.func108, Try.ntmps108
  go_wp2_with (first | ((with_reducible refine gate_dst (N := 1) rfl ?_); refine box_event ?hg (N := 1) ?hd (cs := #[.int .i8 a0_0, .int .i8 a0_1, .int .i8 a0_2, .int .i8 a0_3, .int .i8 a0_4]) (t := 91) ?hr ?_; (case hd => rfl); (case hg => rfl); (case hr => first | (go_simp; done) | (go_simp; rfl)); intro gb212 hg w16 hbox hb; have n_ : _ ∧ _ ∧ _ ∧ _ := ⟨zb HB hb, Aside0.mk (hbox), zg HB hg, zg HB hg⟩; clear HB; obtain ⟨HB, BK212, GW212, GE212⟩ := n_; clear hb hbox hg; obtain ⟨z17_0, z17_1, z17_2, z17_3, z17_4, y17_0, y17_1, y17_2, y17_3, y17_4⟩ := zB5 BK212) | ((with_reducible refine gate_callee (f := 98) rfl ?_); refine goesL_ (some 6) rfl rfl Try.func98 (by kernel_rfl) rfl #[.int .i64 (wrap64 (a0_2)), .int .i64 0, .int .i64 5] rfl (by (try simp only [List.map_toArray, List.map_cons, List.map_nil]); first | done | rfl | (simp only [List.length_drop, List.length_take]; rfl)) ?_; (with_reducible refine (impl_in.calls (wrap64 (a0_2)) 0 5 false _ A2.out).mono ?_); rintro e w' ⟨rfl, ⟨nd, rfl⟩⟩; refine ⟨_, rfl, ?_⟩))
  go_ret
  exact ⟨by first | rfl | (simp [errW_none, errW_some] <;> rfl) | (simp [*, errW_none, errW_some] <;> rfl), by repeat (first | (with_reducible first | exact HB.out | apply below_alloc | apply pw_below_drewN | apply below_drew1 | refine below_set ?_ GE212.out) | exact HB.out)⟩
 subst c3
 have H1 : ((impl_in.f (wrap64 (a0_3)) 0 3).bind fun t214 => (if t214 = true then ((impl_in.f (wrap64 (a0_4)) 1 9).bind fun t215 => (if t215 = true then ((impl_Cell_placed.f a0_0 a0_1).bind fun t216 => (some t216)) else (some false))) else (some false))) = some r := by rw [if_pos rfl] at H; exact H
 clear H
 have H := H1
 clear H1
 replace H := Option.bind_eq_some_iff.mp H
 obtain ⟨t214, A40, H⟩ := H
 replace H : (if t214 = true then ((impl_in.f (wrap64 (a0_4)) 1 9).bind fun t215 => (if t215 = true then ((impl_Cell_placed.f a0_0 a0_1).bind fun t216 => (some t216)) else (some false))) else (some false)) = some r := H
 have A4 := Aside0.mk A40
 clear A40
 by_cases c5 : t214 = true
 rotate_left
 ·replace c5 := Bool.eq_false_iff.mpr c5
  subst c5
  have H1 : (some false) = some r := by rw [if_neg (show ¬ (false = true) by decide)] at H; exact H
  clear H
  have H := H1
  clear H1
  obtain rfl := Option.some.inj H
  go_enter Try.func108, Try.ntmps108
  go_wp2_with (first | ((with_reducible refine gate_dst (N := 1) rfl ?_); refine box_event ?hg (N := 1) ?hd (cs := #[.int .i8 a0_0, .int .i8 a0_1, .int .i8 a0_2, .int .i8 a0_3, .int .i8 a0_4]) (t := 91) ?hr ?_; (case hd => rfl); (case hg => rfl); (case hr => first | (go_simp; done) | (go_simp; rfl)); intro gb212 hg w14 hbox hb; have n_ : _ ∧ _ ∧ _ ∧ _ := ⟨zb HB hb, Aside0.mk (hbox), zg HB hg, zg HB hg⟩; clear HB; obtain ⟨HB, BK212, GW212, GE212⟩ := n_; clear hb hbox hg; obtain ⟨z15_0, z15_1, z15_2, z15_3, z15_4, y15_0, y15_1, y15_2, y15_3, y15_4⟩ := zB5 BK212) | ((with_reducible refine gate_callee (f := 98) rfl ?_); refine goesL_ (some 6) rfl rfl Try.func98 (by kernel_rfl) rfl #[.int .i64 (wrap64 (a0_2)), .int .i64 0, .int .i64 5] rfl (by (try simp only [List.map_toArray, List.map_cons, List.map_nil]); first | done | rfl | (simp only [List.length_drop, List.length_take]; rfl)) ?_; (with_reducible refine (impl_in.calls (wrap64 (a0_2)) 0 5 true _ A2.out).mono ?_); rintro e w' ⟨rfl, ⟨nd, rfl⟩⟩; refine ⟨_, rfl, ?_⟩) | (go_at_call 98; (with_reducible refine (impl_in.calls (wrap64 (a0_3)) 0 3 false _ A4.out).mono ?_); rintro e w' ⟨rfl, ⟨nd, rfl⟩⟩))
  go_ret
  exact ⟨by first | rfl | (simp [errW_none, errW_some] <;> rfl) | (simp [*, errW_none, errW_some] <;> rfl), by repeat (first | (with_reducible first | exact HB.out | apply below_alloc | apply pw_below_drewN | apply below_drew1 | refine below_set ?_ GE212.out) | exact HB.out)⟩
 subst c5
 have H1 : ((impl_in.f (wrap64 (a0_4)) 1 9).bind fun t215 => (if t215 = true then ((impl_Cell_placed.f a0_0 a0_1).bind fun t216 => (some t216)) else (some false))) = some r := by rw [if_pos rfl] at H; exact H
 clear H
 have H := H1
 clear H1
 replace H := Option.bind_eq_some_iff.mp H
 obtain ⟨t215, A60, H⟩ := H
 replace H : (if t215 = true then ((impl_Cell_placed.f a0_0 a0_1).bind fun t216 => (some t216)) else (some false)) = some r := H
 have A6 := Aside0.mk A60
 clear A60
 by_cases c7 : t215 = true
 rotate_left
 ·replace c7 := Bool.eq_false_iff.mpr c7
  subst c7
  have H1 : (some false) = some r := by rw [if_neg (show ¬ (false = true) by decide)] at H; exact H
  clear H
  have H := H1
  clear H1
  obtain rfl := Option.some.inj H
  go_enter Try.func108, Try.ntmps108
  go_wp2_with (first | ((with_reducible refine gate_dst (N := 1) rfl ?_); refine box_event ?hg (N := 1) ?hd (cs := #[.int .i8 a0_0, .int .i8 a0_1, .int .i8 a0_2, .int .i8 a0_3, .int .i8 a0_4]) (t := 91) ?hr ?_; (case hd => rfl); (case hg => rfl); (case hr => first | (go_simp; done) | (go_simp; rfl)); intro gb212 hg w12 hbox hb; have n_ : _ ∧ _ ∧ _ ∧ _ := ⟨zb HB hb, Aside0.mk (hbox), zg HB hg, zg HB hg⟩; clear HB; obtain ⟨HB, BK212, GW212, GE212⟩ := n_; clear hb hbox hg; obtain ⟨z13_0, z13_1, z13_2, z13_3, z13_4, y13_0, y13_1, y13_2, y13_3, y13_4⟩ := zB5 BK212) | ((with_reducible refine gate_callee (f := 98) rfl ?_); refine goesL_ (some 6) rfl rfl Try.func98 (by kernel_rfl) rfl #[.int .i64 (wrap64 (a0_2)), .int .i64 0, .int .i64 5] rfl (by (try simp only [List.map_toArray, List.map_cons, List.map_nil]); first | done | rfl | (simp only [List.length_drop, List.length_take]; rfl)) ?_; (with_reducible refine (impl_in.calls (wrap64 (a0_2)) 0 5 true _ A2.out).mono ?_); rintro e w' ⟨rfl, ⟨nd, rfl⟩⟩; refine ⟨_, rfl, ?_⟩) | (go_at_call 98; (with_reducible refine (impl_in.calls (wrap64 (a0_3)) 0 3 true _ A4.out).mono ?_); rintro e w' ⟨rfl, ⟨nd, rfl⟩⟩) | (go_at_call 98; (with_reducible refine (impl_in.calls (wrap64 (a0_4)) 1 9 false _ A6.out).mono ?_); rintro e w' ⟨rfl, ⟨nd, rfl⟩⟩))
  go_ret
  exact ⟨by first | rfl | (simp [errW_none, errW_some] <;> rfl) | (simp [*, errW_none, errW_some] <;> rfl), by repeat (first | (with_reducible first | exact HB.out | apply below_alloc | apply pw_below_drewN | apply below_drew1 | refine below_set ?_ GE212.out) | exact HB.out)⟩
 subst c7
 have H1 : ((impl_Cell_placed.f a0_0 a0_1).bind fun t216 => (some t216)) = some r := by rw [if_pos rfl] at H; exact H
 clear H
 have H := H1
 clear H1
 replace H := Option.bind_eq_some_iff.mp H
 obtain ⟨t216, A80, H⟩ := H
 replace H : (some t216) = some r := H
 have A8 := Aside0.mk A80
 clear A80
 obtain rfl := Option.some.inj H
 go_enter Try.func108, Try.ntmps108
 go_wp2_with (first | ((with_reducible refine gate_dst (N := 1) rfl ?_); refine box_event ?hg (N := 1) ?hd (cs := #[.int .i8 a0_0, .int .i8 a0_1, .int .i8 a0_2, .int .i8 a0_3, .int .i8 a0_4]) (t := 91) ?hr ?_; (case hd => rfl); (case hg => rfl); (case hr => first | (go_simp; done) | (go_simp; rfl)); intro gb212 hg w9 hbox hb; have n_ : _ ∧ _ ∧ _ ∧ _ := ⟨zb HB hb, Aside0.mk (hbox), zg HB hg, zg HB hg⟩; clear HB; obtain ⟨HB, BK212, GW212, GE212⟩ := n_; clear hb hbox hg; obtain ⟨z10_0, z10_1, z10_2, z10_3, z10_4, y10_0, y10_1, y10_2, y10_3, y10_4⟩ := zB5 BK212) | ((with_reducible refine gate_callee (f := 98) rfl ?_); refine goesL_ (some 6) rfl rfl Try.func98 (by kernel_rfl) rfl #[.int .i64 (wrap64 (a0_2)), .int .i64 0, .int .i64 5] rfl (by (try simp only [List.map_toArray, List.map_cons, List.map_nil]); first | done | rfl | (simp only [List.length_drop, List.length_take]; rfl)) ?_; (with_reducible refine (impl_in.calls (wrap64 (a0_2)) 0 5 true _ A2.out).mono ?_); rintro e w' ⟨rfl, ⟨nd, rfl⟩⟩; refine ⟨_, rfl, ?_⟩) | (go_at_call 98; (with_reducible refine (impl_in.calls (wrap64 (a0_3)) 0 3 true _ A4.out).mono ?_); rintro e w' ⟨rfl, ⟨nd, rfl⟩⟩) | (go_at_call 98; (with_reducible refine (impl_in.calls (wrap64 (a0_4)) 1 9 true _ A6.out).mono ?_); rintro e w' ⟨rfl, ⟨nd, rfl⟩⟩) | (go_at_call 164; (with_reducible refine (impl_Cell_placed.calls a0_0 a0_1 t216 _ A8.out).mono ?_); rintro e w11 ⟨rfl, hb⟩; have n_ : _ ∧ _ := ⟨zk BK212 hb, zbs hb⟩; clear BK212 HB; obtain ⟨BK212, HB⟩ := n_; (try clear hb); (try clear hb2); (try clear hk); (try clear hi)))
 go_ret
 exact ⟨by first | rfl | (simp [errW_none, errW_some] <;> rfl) | (simp [*, errW_none, errW_some] <;> rfl), by repeat (first | (with_reducible first | exact HB.out | apply below_alloc | apply pw_below_drewN | apply below_drew1 | refine below_set ?_ GE212.out) | exact HB.out)⟩
/-! ### impl_Board_has: function 109 -/
def impl_Board_has.f (l0 : List (S37)) (a1_0 : Int) (a1_1 : Int) : Option (Bool) := if a1_0 ≥ 0 then (if 0 < (l0.length : Int) then (if a1_0 < ((rd_T37 l0 0).f0) then (if a1_1 ≥ 0 then (some (decide (a1_1 < ((rd_T37 l0 0).f1)))) else (some false)) else (some false)) else (none)) else (some false)
set_option maxHeartbeats 8000000 in
set_option maxRecDepth 100000 in
theorem impl_Board_has.calls (adp0 : Addr) (l0 : List (S37)) (a1_0 : Int) (a1_1 : Int) (r : Bool) (w : World) (hr0 : Kd.C k37 w (some adp0) l0.length l0) (h : impl_Board_has.f l0 a1_0 a1_1 = some r) :
    Calls Try.prog 109 #[.pointer (some adp0), .agg #[.int .i8 a1_0, .int .i8 a1_1]] w fun e w' => e = .returned (.bool r) ∧ Below w.heap.size w w' := by
 have hu74 := Try.underlying74
 have HR0 := Aside0.mk hr0
 clear hr0
 have HB := Aside0.mk (Below.refl w.heap.size w)
 have H : (if a1_0 ≥ 0 then (if 0 < (l0.length : Int) then (if a1_0 < ((rd_T37 l0 0).f0) then (if a1_1 ≥ 0 then (some (decide (a1_1 < ((rd_T37 l0 0).f1)))) else (some false)) else (some false)) else (none)) else (some false)) = some r := h
 clear h
 by_cases c3 : a1_0 ≥ 0
 rotate_left
 ·rw [if_neg c3] at H
  have c3b0 : decide (0 ≤ a1_0) = false := decide_eq_false c3
  clear c3
  obtain rfl := Option.some.inj H
  go_enter Try.func109, Try.ntmps109
  go_wp2_with (first | ((with_reducible refine gate_dst (N := 3) rfl ?_); refine box_event ?hg (N := 3) ?hd (cs := #[.int .i8 a1_0, .int .i8 a1_1]) (t := 74) ?hr ?_; (case hd => rfl); (case hg => rfl); (case hr => first | (go_simp; done) | (go_simp; rfl)); intro gb217 hg w13 hbox hb; have n_ : _ ∧ _ ∧ _ ∧ _ := ⟨zb HB hb, Aside0.mk (hbox), zg HB hg, zg HB hg⟩; clear HB; obtain ⟨HB, BK217, GW217, GE217⟩ := n_; clear hb hbox hg; obtain ⟨z14_0, z14_1, y14_0, y14_1⟩ := zB2 BK217) | go_quiet (fail))
  go_ret
  exact ⟨by first | rfl | (simp [errW_none, errW_some] <;> rfl) | (simp [*, errW_none, errW_some] <;> rfl), by repeat (first | (with_reducible first | exact HB.out | apply below_alloc | apply pw_below_drewN | apply below_drew1 | refine below_set ?_ GE217.out) | exact HB.out)⟩
 rw [if_pos c3] at H
 have c3b0 : decide (0 ≤ a1_0) = true := decide_eq_true c3
 clear c3
 by_cases c4 : 0 < (l0.length : Int)
 rotate_left
 ·rw [if_neg c4] at H
  exact absurd H (by simp)
 rw [if_pos c4] at H
 have c4b0 : decide (0 < (l0.length : Int)) = true := decide_eq_true c4
 have c4b1 : decide (0 < l0.length) = true := decide_eq_true (by omega)
 clear c4
 by_cases c5 : a1_0 < ((rd_T37 l0 0).f0)
 rotate_left
 ·rw [if_neg c5] at H
  have c5b0 : decide (a1_0 < ((rd_T37 l0 0).f0)) = false := decide_eq_false c5
  clear c5
  obtain rfl := Option.some.inj H
  go_enter Try.func109, Try.ntmps109
  go_wp2_with (first | ((with_reducible refine gate_dst (N := 3) rfl ?_); refine box_event ?hg (N := 3) ?hd (cs := #[.int .i8 a1_0, .int .i8 a1_1]) (t := 74) ?hr ?_; (case hd => rfl); (case hg => rfl); (case hr => first | (go_simp; done) | (go_simp; rfl)); intro gb217 hg w11 hbox hb; have n_ : _ ∧ _ ∧ _ ∧ _ := ⟨zb HB hb, Aside0.mk (hbox), zg HB hg, zg HB hg⟩; clear HB; obtain ⟨HB, BK217, GW217, GE217⟩ := n_; clear hb hbox hg; obtain ⟨z12_0, z12_1, y12_0, y12_1⟩ := zB2 BK217; have p218 : 0 ≤ (0 : Int) := (by omega); have q218 : 0 < (l0.length : Int) := of_decide_eq_true (by first | (with_reducible assumption) | assumption); obtain ⟨ad218, A218_2, c218_2, e218, hx218_0, hx218_1, hx218_2, hl218_2, hi218_2⟩ := at_T37 HR0.out 0 p218 q218; obtain rfl : adp0 = ad218 := (by injection e218); have qi218 : (0 < l0.length) = True := eq_true (by omega); (try rw [show ((0 : Int)).toNat = 0 from rfl] at hx218_0); (try rw [show 0 * 3 = 0 from rfl] at hx218_0); (try rw [Addr.add_zero'] at hx218_0); (try rw [show ((0 : Int)).toNat = 0 from rfl] at hx218_1); (try rw [show 0 * 3 = 0 from rfl] at hx218_1); (try rw [Addr.add_zero'] at hx218_1); (try rw [show ((0 : Int)).toNat = 0 from rfl] at hx218_2); (try rw [show 0 * 3 = 0 from rfl] at hx218_2); (try rw [Addr.add_zero'] at hx218_2); replace hx218_0 := zc HB hx218_0; replace hx218_1 := zc HB hx218_1; replace hx218_2 := zc HB hx218_2; have HR218_2 := Aside0.mk hi218_2; have HC218_2 := Aside0.mk hl218_2; clear hi218_2 hl218_2; replace p218 := eq_true p218; replace q218 := eq_true q218) | go_quiet (fail))
  go_ret
  exact ⟨by first | rfl | (simp [errW_none, errW_some] <;> rfl) | (simp [*, errW_none, errW_some] <;> rfl), by repeat (first | (with_reducible first | exact HB.out | apply below_alloc | apply pw_below_drewN | apply below_drew1 | refine below_set ?_ GE217.out) | exact HB.out)⟩
 rw [if_pos c5] at H
 have c5b0 : decide (a1_0 < ((rd_T37 l0 0).f0)) = true := decide_eq_true c5
 clear c5
 by_cases c6 : a1_1 ≥ 0
 rotate_left
 ·rw [if_neg c6] at H
  have c6b0 : decide (0 ≤ a1_1) = false := decide_eq_false c6
  clear c6
  obtain rfl := Option.some.inj H
  go_enter Try.func109, Try.ntmps109
  go_wp2_with (first | ((with_reducible refine gate_dst (N := 3) rfl ?_); refine box_event ?hg (N := 3) ?hd (cs := #[.int .i8 a1_0, .int .i8 a1_1]) (t := 74) ?hr ?_; (case hd => rfl); (case hg => rfl); (case hr => first | (go_simp; done) | (go_simp; rfl)); intro gb217 hg w9 hbox hb; have n_ : _ ∧ _ ∧ _ ∧ _ := ⟨zb HB hb, Aside0.mk (hbox), zg HB hg, zg HB hg⟩; clear HB; obtain ⟨HB, BK217, GW217, GE217⟩ := n_; clear hb hbox hg; obtain ⟨z10_0, z10_1, y10_0, y10_1⟩ := zB2 BK217; have p218 : 0 ≤ (0 : Int) := (by omega); have q218 : 0 < (l0.length : Int) := of_decide_eq_true (by first | (with_reducible assumption) | assumption); obtain ⟨ad218, A218_2, c218_2, e218, hx218_0, hx218_1, hx218_2, hl218_2, hi218_2⟩ := at_T37 HR0.out 0 p218 q218; obtain rfl : adp0 = ad218 := (by injection e218); have qi218 : (0 < l0.length) = True := eq_true (by omega); (try rw [show ((0 : Int)).toNat = 0 from rfl] at hx218_0); (try rw [show 0 * 3 = 0 from rfl] at hx218_0); (try rw [Addr.add_zero'] at hx218_0); (try rw [show ((0 : Int)).toNat = 0 from rfl] at hx218_1); (try rw [show 0 * 3 = 0 from rfl] at hx218_1); (try rw [Addr.add_zero'] at hx218_1); (try rw [show ((0 : Int)).toNat = 0 from rfl] at hx218_2); (try rw [show 0 * 3 = 0 from rfl] at hx218_2); (try rw [Addr.add_zero'] at hx218_2); replace hx218_0 := zc HB hx218_0; replace hx218_1 := zc HB hx218_1; replace hx218_2 := zc HB hx218_2; have HR218_2 := Aside0.mk hi218_2; have HC218_2 := Aside0.mk hl218_2; clear hi218_2 hl218_2; replace p218 := eq_true p218; replace q218 := eq_true q218) | go_quiet (fail))
  go_ret
  exact ⟨by first | rfl | (simp [errW_none, errW_some] <;> rfl) | (simp [*, errW_none, errW_some] <;> rfl), by repeat (first | (with_reducible first | exact HB.out | apply below_alloc | apply pw_below_drewN | apply below_drew1 | refine below_set ?_ GE217.out) | exact HB.out)⟩
 rw [if_pos c6] at H
 have c6b0 : decide (0 ≤ a1_1) = true := decide_eq_true c6
 clear c6
 obtain rfl := Option.some.inj H
 go_enter Try.func109, Try.ntmps109
 go_wp2_with (first | ((with_reducible refine gate_dst (N := 3) rfl ?_); refine box_event ?hg (N := 3) ?hd (cs := #[.int .i8 a1_0, .int .i8 a1_1]) (t := 74) ?hr ?_; (case hd => rfl); (case hg => rfl); (case hr => first | (go_simp; done) | (go_simp; rfl)); intro gb217 hg w7 hbox hb; have n_ : _ ∧ _ ∧ _ ∧ _ := ⟨zb HB hb, Aside0.mk (hbox), zg HB hg, zg HB hg⟩; clear HB; obtain ⟨HB, BK217, GW217, GE217⟩ := n_; clear hb hbox hg; obtain ⟨z8_0, z8_1, y8_0, y8_1⟩ := zB2 BK217; have p218 : 0 ≤ (0 : Int) := (by omega); have q218 : 0 < (l0.length : Int) := of_decide_eq_true (by first | (with_reducible assumption) | assumption); obtain ⟨ad218, A218_2, c218_2, e218, hx218_0, hx218_1, hx218_2, hl218_2, hi218_2⟩ := at_T37 HR0.out 0 p218 q218; obtain rfl : adp0 = ad218 := (by injection e218); have qi218 : (0 < l0.length) = True := eq_true (by omega); (try rw [show ((0 : Int)).toNat = 0 from rfl] at hx218_0); (try rw [show 0 * 3 = 0 from rfl] at hx218_0); (try rw [Addr.add_zero'] at hx218_0); (try rw [show ((0 : Int)).toNat = 0 from rfl] at hx218_1); (try rw [show 0 * 3 = 0 from rfl] at hx218_1); (try rw [Addr.add_zero'] at hx218_1); (try rw [show ((0 : Int)).toNat = 0 from rfl] at hx218_2); (try rw [show 0 * 3 = 0 from rfl] at hx218_2); (try rw [Addr.add_zero'] at hx218_2); replace hx218_0 := zc HB hx218_0; replace hx218_1 := zc HB hx218_1; replace hx218_2 := zc HB hx218_2; have HR218_2 := Aside0.mk hi218_2; have HC218_2 := Aside0.mk hl218_2; clear hi218_2 hl218_2; replace p218 := eq_true p218; replace q218 := eq_true q218; have p219 : 0 ≤ (0 : Int) := (by omega); have q219 : 0 < (l0.length : Int) := of_decide_eq_true (by first | (with_reducible assumption) | assumption); obtain ⟨ad219, A219_2, c219_2, e219, hx219_0, hx219_1, hx219_2, hl219_2, hi219_2⟩ := at_T37 HR0.out 0 p219 q219; obtain rfl : adp0 = ad219 := (by injection e219); have qi219 : (0 < l0.length) = True := eq_true (by omega); (try rw [show ((0 : Int)).toNat = 0 from rfl] at hx219_0); (try rw [show 0 * 3 = 0 from rfl] at hx219_0); (try rw [Addr.add_zero'] at hx219_0); (try rw [show ((0 : Int)).toNat = 0 from rfl] at hx219_1); (try rw [show 0 * 3 = 0 from rfl] at hx219_1); (try rw [Addr.add_zero'] at hx219_1); (try rw [show ((0 : Int)).toNat = 0 from rfl] at hx219_2); (try rw [show 0 * 3 = 0 from rfl] at hx219_2); (try rw [Addr.add_zero'] at hx219_2); replace hx219_0 := zc HB hx219_0; replace hx219_1 := zc HB hx219_1; replace hx219_2 := zc HB hx219_2; have HR219_2 := Aside0.mk hi219_2; have HC219_2 := Aside0.mk hl219_2; clear hi219_2 hl219_2; replace p219 := eq_true p219; replace q219 := eq_true q219; have ea_ := Option.some.inj (hx218_2.symm.trans hx219_2); injection ea_ with ea_ en_ ec_; subst ea_; subst ec_; clear en_) | go_quiet (fail))
 go_ret
 exact ⟨by first | rfl | (simp [errW_none, errW_some] <;> rfl) | (simp [*, errW_none, errW_some] <;> rfl), by repeat (first | (with_reducible first | exact HB.out | apply below_alloc | apply pw_below_drewN | apply below_drew1 | refine below_set ?_ GE217.out) | exact HB.out)⟩
end Go.Proofs.Ytffnfpnajkgnaaa.PFnExactMoveBoard
