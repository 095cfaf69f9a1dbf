-- WRITTEN by xprint.py, a program of this session's. Not trusted: Lean checks it.
-- packed by pack.py
import Derived.Test.YtffnfpnajkgnaaaPFnExactTurnBoardx0
import Derived.Test.YtffnfpnajkgnaaaPFnExactTurnBoardx8
import Derived.Test.YtffnfpnajkgnaaaTFnExactTurnBoarda
namespace Go.Proofs.Ytffnfpnajkgnaaa.PFnExactTurnBoard
open Go.RowKit Go.Proofs.YtffnfpnajkgnaaaW.PrintWords Go.Proofs.YtffnfpnajkgnaaaW.PrintLast Go.Proofs.YtffnfpnajkgnaaaW.PrintMore Go.Proofs.YtffnfpnajkgnaaaX
attribute [local go_sem] max2_int min2_int max_two min_two max_three min_three max_four min_four   -- for this text's walks alone
set_option linter.unusedVariables false
set_option linter.unusedSimpArgs false

/-! ### impl_TurnBoard: function 70 -/
mutual
def impl_TurnBoard.l0 : Nat → Int → Int → Int → Int → List (S91) → Option (Int × Int × (List (S91)) × Int)
  | 0, _, _, _, _, _ => none
  | k + 1, x24, x25, x237000, x237001, x237002 => if x25 < x24 then (impl_TurnBoard.l1 k x24 x25 (x237002.length : Int) 0 x237000 x237001 x237002) else (some (x237000, x237001, x237002, 0))
def impl_TurnBoard.l1 : Nat → Int → Int → Int → Int → Int → Int → List (S91) → Option (Int × Int × (List (S91)) × Int)
  | 0, _, _, _, _, _, _, _ => none
  | k + 1, x24, x25, x29, x30, x237000, x237001, x237002 => if x30 < x29 then (if 0 ≤ x30 then (if x30 < (x237002.length : Int) then ((impl_Piece_turned.f (IntKind.i8.wrap ((IntKind.i8.wrap (x237001 - 1)) - ((rd_T91 x237002 x30).f0.f1))) ((rd_T91 x237002 x30).f0.f0) ((rd_T91 x237002 x30).f1) ((rd_T91 x237002 x30).f2) ((rd_T91 x237002 x30).f3) 1).bind fun bt240 => (impl_TurnBoard.l1 k x24 x25 x29 (wrap64 (x30 + 1)) x237000 x237001 (x237002.set (x30 : Int).toNat (⟨(⟨bt240.1, bt240.2.1⟩ : S74), bt240.2.2.1, bt240.2.2.2.1, bt240.2.2.2.2⟩ : S91)))) else (none)) else (none)) else (impl_TurnBoard.l0 k x24 (wrap64 (x25 + 1)) x237001 x237000 x237002)
end
def impl_TurnBoard.f (k : Nat) (a0_0 : Int) (a0_1 : Int) (l0_2 : List (S91)) (a1 : Int) : Option (Int × Int × (List (S91)) × Int) := (impl_ValidBoard.f k a0_0 a0_1 l0_2).bind fun t226 => (if t226 = true then ((impl_quartersOk.f a1).bind fun t227 => (if t227 = true then ((impl_Piece.f l0_2).bind fun t228 => ((impl_Board_with.f [(⟨a0_0, a0_1, l0_2⟩ : S37)] t228).bind fun bt231 => ((impl_turns.f a1).bind fun t237 => (impl_TurnBoard.l0 k t237 0 bt231.1 bt231.2 t228)))) else (some (0, 0, ([] : List (S91)), 2)))) else (some (0, 0, ([] : List (S91)), 1)))
theorem impl_TurnBoard.mono_l : ∀ k, (∀ y0 y1 y2 y3 y4, LeO (impl_TurnBoard.l0 k y0 y1 y2 y3 y4) (impl_TurnBoard.l0 (k + 1) y0 y1 y2 y3 y4)) ∧ (∀ y0 y1 y2 y3 y4 y5 y6, LeO (impl_TurnBoard.l1 k y0 y1 y2 y3 y4 y5 y6) (impl_TurnBoard.l1 (k + 1) y0 y1 y2 y3 y4 y5 y6))
  | 0 => ⟨fun _ _ _ _ _ r h => by simp [impl_TurnBoard.l0] at h, fun _ _ _ _ _ _ _ r h => by simp [impl_TurnBoard.l1] at h⟩
  | k + 1 => by
    obtain ⟨ih0, ih1⟩ := impl_TurnBoard.mono_l k
    refine ⟨?_, ?_⟩
    · intro y0 y1 y2 y3 y4
      unfold impl_TurnBoard.l0
      repeat' first | (with_reducible first | apply ih0 | apply ih1 | apply impl_ValidBoard.mono | exact LeO.refl _ | exact LeO.none _ | refine LeO.ite ?_ ?_ | refine LeO.bind ?_ (fun _ => ?_)) | apply ih0 | apply ih1 | apply impl_ValidBoard.mono | exact LeO.none _ | refine LeO.ite ?_ ?_ | refine LeO.bind ?_ (fun _ => ?_)
    · intro y0 y1 y2 y3 y4 y5 y6
      unfold impl_TurnBoard.l1
      repeat' first | (with_reducible first | apply ih0 | apply ih1 | apply impl_ValidBoard.mono | exact LeO.refl _ | exact LeO.none _ | refine LeO.ite ?_ ?_ | refine LeO.bind ?_ (fun _ => ?_)) | apply ih0 | apply ih1 | apply impl_ValidBoard.mono | exact LeO.none _ | refine LeO.ite ?_ ?_ | refine LeO.bind ?_ (fun _ => ?_)
theorem impl_TurnBoard.mono : ∀ a0 a1 a2 a3 k, LeO (impl_TurnBoard.f k a0 a1 a2 a3) (impl_TurnBoard.f (k + 1) a0 a1 a2 a3) := by
 intro a0 a1 a2 a3 k
 obtain ⟨ih0, ih1⟩ := impl_TurnBoard.mono_l k
 unfold impl_TurnBoard.f
 repeat' first | (with_reducible first | apply ih0 | apply ih1 | apply impl_ValidBoard.mono | exact LeO.refl _ | exact LeO.none _ | refine LeO.ite ?_ ?_ | refine LeO.bind ?_ (fun _ => ?_)) | apply ih0 | apply ih1 | apply impl_ValidBoard.mono | exact LeO.none _ | refine LeO.ite ?_ ?_ | refine LeO.bind ?_ (fun _ => ?_)
set_option maxHeartbeats 8000000 in
set_option maxRecDepth 100000 in
theorem impl_TurnBoard.calls (k : Nat) (a0_0 : Int) (a0_1 : Int) (A0_2 : Option Addr) (c0_2 : Nat) (l0_2 : List (S91)) (a1 : Int) (r1 : Int) (r2 : Int) (r3 : List (S91)) (r4 : Int) (w : World) (hr0_2 : Kd.C k91 w A0_2 l0_2.length l0_2) (hc0_2 : l0_2.length ≤ c0_2) (h : impl_TurnBoard.f k a0_0 a0_1 l0_2 a1 = some (r1, r2, r3, r4)) :
    Calls Try.prog 70 #[.agg #[.int .i8 a0_0, .int .i8 a0_1, .slice A0_2 l0_2.length c0_2], .int .i64 a1] w fun e w' => ∃ v2_ : Value, e = .returned (.tuple #[.agg #[.int .i8 r1, .int .i8 r2, v2_], .int .i64 r4]) ∧ Kd.R k91 91 w' w.heap.size (fun _ => True) v2_ r3 ∧ Below w.heap.size w w' := by
 have hu37 := Try.underlying37
 have hu91 := Try.underlying91
 have hu74 := Try.underlying74
 have HR0_2 := Aside0.mk hr0_2
 have HC0_2 := Aside0.mk hc0_2
 clear hr0_2 hc0_2
 have HB := Aside0.mk (Below.refl w.heap.size w)
 have H : ((impl_ValidBoard.f k a0_0 a0_1 l0_2).bind fun t226 => (if t226 = true then ((impl_quartersOk.f a1).bind fun t227 => (if t227 = true then ((impl_Piece.f l0_2).bind fun t228 => ((impl_Board_with.f [(⟨a0_0, a0_1, l0_2⟩ : S37)] t228).bind fun bt231 => ((impl_turns.f a1).bind fun t237 => (impl_TurnBoard.l0 k t237 0 bt231.1 bt231.2 t228)))) else (some (0, 0, ([] : List (S91)), 2)))) else (some (0, 0, ([] : List (S91)), 1)))) = some (r1, r2, r3, r4) := h
 clear h
 replace H := Option.bind_eq_some_iff.mp H
 obtain ⟨t226, A30, H⟩ := H
 replace H : (if t226 = true then ((impl_quartersOk.f a1).bind fun t227 => (if t227 = true then ((impl_Piece.f l0_2).bind fun t228 => ((impl_Board_with.f [(⟨a0_0, a0_1, l0_2⟩ : S37)] t228).bind fun bt231 => ((impl_turns.f a1).bind fun t237 => (impl_TurnBoard.l0 k t237 0 bt231.1 bt231.2 t228)))) else (some (0, 0, ([] : List (S91)), 2)))) else (some (0, 0, ([] : List (S91)), 1))) = some (r1, r2, r3, r4) := H
 have A3 := Aside0.mk A30
 clear A30
 by_cases c4 : t226 = true
 rotate_left
 ·replace c4 := Bool.eq_false_iff.mpr c4
  subst c4
  have H1 : (some (0, 0, ([] : List (S91)), 1)) = some (r1, r2, r3, r4) := by rw [if_neg (show ¬ (false = true) by decide)] at H; exact H
  clear H
  have H := H1
  clear H1
  simp only [Option.some.injEq, Prod.mk.injEq] at H
  obtain ⟨rfl, rfl, rfl, rfl⟩ := H
  go_enter Try.func70, Try.ntmps70
  go_wp2_with (first | ((with_reducible refine gate_dst (N := 2) rfl ?_); refine box_event ?hg (N := 2) ?hd (cs := #[.int .i8 a0_0, .int .i8 a0_1, .slice A0_2 l0_2.length c0_2]) (t := 37) ?hr ?_; (case hd => rfl); (case hg => rfl); (case hr => first | (go_simp; done) | (go_simp; rfl)); intro gb224 hg w62 hbox hb; have n_ : _ ∧ _ ∧ _ ∧ _ := ⟨zb HB hb, Aside0.mk (hbox), zg HB hg, zg HB hg⟩; clear HB; obtain ⟨HB, BK224, GW224, GE224⟩ := n_; clear hb hbox hg) | ((with_reducible refine gate_dst (N := 4) rfl ?_); refine box_event ?hg (N := 4) ?hd (cs := #[.int .i8 0, .int .i8 0, .slice none 0 0]) (t := 37) ?hr ?_; (case hd => rfl); (case hg => rfl); (case hr => first | (go_simp; done) | (go_simp; rfl)); intro gb225 hg w63 hbox hb; have n_ : _ ∧ _ ∧ _ ∧ _ ∧ _ ∧ _ ∧ _ := ⟨zk BK224 hb, zbs hb, Aside0.mk (hbox), zg HB hg, zg HB hg, zn1 BK224 hg, zn2 BK224 hg⟩; clear BK224 HB; obtain ⟨BK224, HB, BK225, GW225, GE225, NB224_225, NB225_224⟩ := n_; clear hb hbox hg; have hnb64 := NB224_225.out; have hnc64 := NB225_224.out; obtain ⟨z65_0, z65_1, z65_2, y65_0, y65_1, y65_2⟩ := zB3 BK224) | ((with_reducible refine gate_callee (f := 43) rfl ?_); refine goesL_ (some 11) rfl rfl Try.func43 (by kernel_rfl) rfl #[.agg #[.int .i8 a0_0, .int .i8 a0_1, .slice A0_2 l0_2.length c0_2]] rfl (by (try simp only [List.map_toArray, List.map_cons, List.map_nil]); first | done | rfl | (simp only [List.length_drop, List.length_take]; rfl)) ?_; (with_reducible refine (impl_ValidBoard.calls k a0_0 a0_1 _ _ l0_2 false _ ?side1 ?side2 A3.out).mono ?_); (case side1 => exact zcc HB HR0_2.out); (case side2 => exact HC0_2.out); rintro e w66 ⟨rfl, hb⟩; refine ⟨_, rfl, ?_⟩; have n_ : _ ∧ _ ∧ _ := ⟨zk BK224 hb, zk BK225 hb, zbs hb⟩; clear BK224 BK225 HB; obtain ⟨BK224, BK225, HB⟩ := n_; (try clear hb); (try clear hb2); (try clear hk); (try clear hi); obtain ⟨z67_0, z67_1, z67_2, y67_0, y67_1, y67_2⟩ := zB3 BK225))
  refine bodyPost_ret (results_ct rfl _ _ gb225 37 #[.int .i8 0, .int .i8 0, .slice none 0 0] (0, 0) _ rfl (by (with_reducible repeat (first | refine blk_drewN ?_ _ | refine blk_drew ?_ | refine blk_alloc ?_ _)); refine blk_put (cs := #[.int .i8 0, .int .i8 0, .slice none 0 0]) ?_ 2 _ rfl; (with_reducible repeat (first | refine blk_drewN ?_ _ | refine blk_drew ?_ | refine blk_alloc ?_ _)); refine blk_put (cs := #[.int .i8 0, .int .i8 0, .slice none 0 0]) ?_ 1 _ rfl; (with_reducible repeat (first | refine blk_drewN ?_ _ | refine blk_drew ?_ | refine blk_alloc ?_ _)); refine blk_put (cs := #[.int .i8 0, .int .i8 0, .slice none 0 0]) ?_ 0 _ rfl; (with_reducible repeat (first | refine blk_drewN ?_ _ | refine blk_drew ?_ | refine blk_alloc ?_ _)); exact BK225.out) Try.underlying37 rfl (by kernel_rfl)) rfl ?_
  exact ⟨_, by first | rfl | (simp [errW_none, errW_some] <;> rfl) | (simp [*, errW_none, errW_some] <;> rfl), by first | exact Kd.R_nil _ _ _ _ _ | exact Kd.N_nil _ _ _ _ _ | exact Kd.V_nil _ _ _ _ _ | exact Kd.Q_nil _ _ _ _ _ | exact Kd.S_nil _ _ _ _ _, by repeat (first | (with_reducible first | exact HB.out | apply below_alloc | apply pw_below_drewN | apply below_drew1 | refine below_set ?_ GE224.out | refine below_set ?_ GE225.out) | exact HB.out)⟩
 subst c4
 have H1 : ((impl_quartersOk.f a1).bind fun t227 => (if t227 = true then ((impl_Piece.f l0_2).bind fun t228 => ((impl_Board_with.f [(⟨a0_0, a0_1, l0_2⟩ : S37)] t228).bind fun bt231 => ((impl_turns.f a1).bind fun t237 => (impl_TurnBoard.l0 k t237 0 bt231.1 bt231.2 t228)))) else (some (0, 0, ([] : List (S91)), 2)))) = some (r1, r2, r3, r4) := by rw [if_pos rfl] at H; exact H
 clear H
 have H := H1
 clear H1
 replace H := Option.bind_eq_some_iff.mp H
 obtain ⟨t227, A50, H⟩ := H
 replace H : (if t227 = true then ((impl_Piece.f l0_2).bind fun t228 => ((impl_Board_with.f [(⟨a0_0, a0_1, l0_2⟩ : S37)] t228).bind fun bt231 => ((impl_turns.f a1).bind fun t237 => (impl_TurnBoard.l0 k t237 0 bt231.1 bt231.2 t228)))) else (some (0, 0, ([] : List (S91)), 2))) = some (r1, r2, r3, r4) := H
 have A5 := Aside0.mk A50
 clear A50
 by_cases c6 : t227 = true
 rotate_left
 ·replace c6 := Bool.eq_false_iff.mpr c6
  subst c6
  have H1 : (some (0, 0, ([] : List (S91)), 2)) = some (r1, r2, r3, r4) := by rw [if_neg (show ¬ (false = true) by decide)] at H; exact H
  clear H
  have H := H1
  clear H1
  simp only [Option.some.injEq, Prod.mk.injEq] at H
  obtain ⟨rfl, rfl, rfl, rfl⟩ := H
  go_enter Try.func70, Try.ntmps70
  go_wp2_with (first | ((with_reducible refine gate_dst (N := 2) rfl ?_); refine box_event ?hg (N := 2) ?hd (cs := #[.int .i8 a0_0, .int .i8 a0_1, .slice A0_2 l0_2.length c0_2]) (t := 37) ?hr ?_; (case hd => rfl); (case hg => rfl); (case hr => first | (go_simp; done) | (go_simp; rfl)); intro gb224 hg w56 hbox hb; have n_ : _ ∧ _ ∧ _ ∧ _ := ⟨zb HB hb, Aside0.mk (hbox), zg HB hg, zg HB hg⟩; clear HB; obtain ⟨HB, BK224, GW224, GE224⟩ := n_; clear hb hbox hg) | ((with_reducible refine gate_dst (N := 4) rfl ?_); refine box_event ?hg (N := 4) ?hd (cs := #[.int .i8 0, .int .i8 0, .slice none 0 0]) (t := 37) ?hr ?_; (case hd => rfl); (case hg => rfl); (case hr => first | (go_simp; done) | (go_simp; rfl)); intro gb225 hg w57 hbox hb; have n_ : _ ∧ _ ∧ _ ∧ _ ∧ _ ∧ _ ∧ _ := ⟨zk BK224 hb, zbs hb, Aside0.mk (hbox), zg HB hg, zg HB hg, zn1 BK224 hg, zn2 BK224 hg⟩; clear BK224 HB; obtain ⟨BK224, HB, BK225, GW225, GE225, NB224_225, NB225_224⟩ := n_; clear hb hbox hg; have hnb58 := NB224_225.out; have hnc58 := NB225_224.out; obtain ⟨z59_0, z59_1, z59_2, y59_0, y59_1, y59_2⟩ := zB3 BK224) | ((with_reducible refine gate_callee (f := 43) rfl ?_); refine goesL_ (some 11) rfl rfl Try.func43 (by kernel_rfl) rfl #[.agg #[.int .i8 a0_0, .int .i8 a0_1, .slice A0_2 l0_2.length c0_2]] rfl (by (try simp only [List.map_toArray, List.map_cons, List.map_nil]); first | done | rfl | (simp only [List.length_drop, List.length_take]; rfl)) ?_; (with_reducible refine (impl_ValidBoard.calls k a0_0 a0_1 _ _ l0_2 true _ ?side1 ?side2 A3.out).mono ?_); (case side1 => exact zcc HB HR0_2.out); (case side2 => exact HC0_2.out); rintro e w60 ⟨rfl, hb⟩; refine ⟨_, rfl, ?_⟩; have n_ : _ ∧ _ ∧ _ := ⟨zk BK224 hb, zk BK225 hb, zbs hb⟩; clear BK224 BK225 HB; obtain ⟨BK224, BK225, HB⟩ := n_; (try clear hb); (try clear hb2); (try clear hk); (try clear hi)) | ((with_reducible refine gate_callee (f := 136) rfl ?_); refine goesL_ (some 16) rfl rfl Try.func136 (by kernel_rfl) rfl #[.int .i64 a1] rfl (by (try simp only [List.map_toArray, List.map_cons, List.map_nil]); first | done | rfl | (simp only [List.length_drop, List.length_take]; rfl)) ?_; (with_reducible refine (impl_quartersOk.calls a1 false _ A5.out).mono ?_); rintro e w' ⟨rfl, ⟨nd, rfl⟩⟩; refine ⟨_, rfl, ?_⟩; (try (rw [drewN_self w60]; generalize hq_ : World.drewN w60 _ = w60; have n0_ : Aside0 (w60.heap[gb224]? = some (.cells #[.int .i8 a0_0, .int .i8 a0_1, .slice A0_2 l0_2.length c0_2] 37 (0, 0))) := ⟨by rw [← hq_]; exact (zh BK224).out⟩; have n1_ : Aside0 (w60.heap[gb225]? = some (.cells #[.int .i8 0, .int .i8 0, .slice none 0 0] 37 (0, 0))) := ⟨by rw [← hq_]; exact (zh BK225).out⟩; have n2_ : Aside0 (Below w.heap.size w w60) := ⟨by rw [← hq_]; exact (by repeat (first | (with_reducible first | exact HB.out | apply below_alloc | apply pw_below_drewN | apply below_drew1 | refine below_set ?_ GE224.out | refine below_set ?_ GE225.out) | exact HB.out))⟩; clear BK224 BK225 HB hq_; have BK224 := n0_; have BK225 := n1_; have HB := n2_; clear n0_ n1_ n2_)); obtain ⟨z61_0, z61_1, z61_2, y61_0, y61_1, y61_2⟩ := zB3 BK225))
  refine bodyPost_ret (results_ct rfl _ _ gb225 37 #[.int .i8 0, .int .i8 0, .slice none 0 0] (0, 0) _ rfl (by (with_reducible repeat (first | refine blk_drewN ?_ _ | refine blk_drew ?_ | refine blk_alloc ?_ _)); refine blk_put (cs := #[.int .i8 0, .int .i8 0, .slice none 0 0]) ?_ 2 _ rfl; (with_reducible repeat (first | refine blk_drewN ?_ _ | refine blk_drew ?_ | refine blk_alloc ?_ _)); refine blk_put (cs := #[.int .i8 0, .int .i8 0, .slice none 0 0]) ?_ 1 _ rfl; (with_reducible repeat (first | refine blk_drewN ?_ _ | refine blk_drew ?_ | refine blk_alloc ?_ _)); refine blk_put (cs := #[.int .i8 0, .int .i8 0, .slice none 0 0]) ?_ 0 _ rfl; (with_reducible repeat (first | refine blk_drewN ?_ _ | refine blk_drew ?_ | refine blk_alloc ?_ _)); exact BK225.out) Try.underlying37 rfl (by kernel_rfl)) rfl ?_
  exact ⟨_, by first | rfl | (simp [errW_none, errW_some] <;> rfl) | (simp [*, errW_none, errW_some] <;> rfl), by first | exact Kd.R_nil _ _ _ _ _ | exact Kd.N_nil _ _ _ _ _ | exact Kd.V_nil _ _ _ _ _ | exact Kd.Q_nil _ _ _ _ _ | exact Kd.S_nil _ _ _ _ _, by repeat (first | (with_reducible first | exact HB.out | apply below_alloc | apply pw_below_drewN | apply below_drew1 | refine below_set ?_ GE224.out | refine below_set ?_ GE225.out) | exact HB.out)⟩
 subst c6
 have H1 : ((impl_Piece.f l0_2).bind fun t228 => ((impl_Board_with.f [(⟨a0_0, a0_1, l0_2⟩ : S37)] t228).bind fun bt231 => ((impl_turns.f a1).bind fun t237 => (impl_TurnBoard.l0 k t237 0 bt231.1 bt231.2 t228)))) = some (r1, r2, r3, r4) := by rw [if_pos rfl] at H; exact H
 clear H
 have H := H1
 clear H1
 replace H := Option.bind_eq_some_iff.mp H
 obtain ⟨t228, A70, H⟩ := H
 replace H : ((impl_Board_with.f [(⟨a0_0, a0_1, l0_2⟩ : S37)] t228).bind fun bt231 => ((impl_turns.f a1).bind fun t237 => (impl_TurnBoard.l0 k t237 0 bt231.1 bt231.2 t228))) = some (r1, r2, r3, r4) := H
 have A7 := Aside0.mk A70
 clear A70
 replace H := Option.bind_eq_some_iff.mp H
 obtain ⟨⟨t231, t232⟩, A80, H⟩ := H
 replace H : ((impl_turns.f a1).bind fun t237 => (impl_TurnBoard.l0 k t237 0 t231 t232 t228)) = some (r1, r2, r3, r4) := H
 have A8 := Aside0.mk A80
 clear A80
 replace H := Option.bind_eq_some_iff.mp H
 obtain ⟨t237, A90, H⟩ := H
 replace H : (impl_TurnBoard.l0 k t237 0 t231 t232 t228) = some (r1, r2, r3, r4) := H
 have A9 := Aside0.mk A90
 clear A90
 have H' := Aside0.mk H
 clear H
 go_enter Try.func70, Try.ntmps70
 go_wp2_with (first | ((with_reducible refine gate_dst (N := 2) rfl ?_); refine box_event ?hg (N := 2) ?hd (cs := #[.int .i8 a0_0, .int .i8 a0_1, .slice A0_2 l0_2.length c0_2]) (t := 37) ?hr ?_; (case hd => rfl); (case hg => rfl); (case hr => first | (go_simp; done) | (go_simp; rfl)); intro gb224 hg w10 hbox hb; have n_ : _ ∧ _ ∧ _ ∧ _ := ⟨zb HB hb, Aside0.mk (hbox), zg HB hg, zg HB hg⟩; clear HB; obtain ⟨HB, BK224, GW224, GE224⟩ := n_; clear hb hbox hg) | ((with_reducible refine gate_dst (N := 4) rfl ?_); refine box_event ?hg (N := 4) ?hd (cs := #[.int .i8 0, .int .i8 0, .slice none 0 0]) (t := 37) ?hr ?_; (case hd => rfl); (case hg => rfl); (case hr => first | (go_simp; done) | (go_simp; rfl)); intro gb225 hg w11 hbox hb; have n_ : _ ∧ _ ∧ _ ∧ _ ∧ _ ∧ _ ∧ _ := ⟨zk BK224 hb, zbs hb, Aside0.mk (hbox), zg HB hg, zg HB hg, zn1 BK224 hg, zn2 BK224 hg⟩; clear BK224 HB; obtain ⟨BK224, HB, BK225, GW225, GE225, NB224_225, NB225_224⟩ := n_; clear hb hbox hg; have hnb12 := NB224_225.out; have hnc12 := NB225_224.out; obtain ⟨z13_0, z13_1, z13_2, y13_0, y13_1, y13_2⟩ := zB3 BK224) | ((with_reducible refine gate_callee (f := 43) rfl ?_); refine goesL_ (some 11) rfl rfl Try.func43 (by kernel_rfl) rfl #[.agg #[.int .i8 a0_0, .int .i8 a0_1, .slice A0_2 l0_2.length c0_2]] rfl (by (try simp only [List.map_toArray, List.map_cons, List.map_nil]); first | done | rfl | (simp only [List.length_drop, List.length_take]; rfl)) ?_; (with_reducible refine (impl_ValidBoard.calls k a0_0 a0_1 _ _ l0_2 true _ ?side1 ?side2 A3.out).mono ?_); (case side1 => exact zcc HB HR0_2.out); (case side2 => exact HC0_2.out); rintro e w14 ⟨rfl, hb⟩; refine ⟨_, rfl, ?_⟩; have n_ : _ ∧ _ ∧ _ := ⟨zk BK224 hb, zk BK225 hb, zbs hb⟩; clear BK224 BK225 HB; obtain ⟨BK224, BK225, HB⟩ := n_; (try clear hb); (try clear hb2); (try clear hk); (try clear hi)) | ((with_reducible refine gate_callee (f := 136) rfl ?_); refine goesL_ (some 16) rfl rfl Try.func136 (by kernel_rfl) rfl #[.int .i64 a1] rfl (by (try simp only [List.map_toArray, List.map_cons, List.map_nil]); first | done | rfl | (simp only [List.length_drop, List.length_take]; rfl)) ?_; (with_reducible refine (impl_quartersOk.calls a1 true _ A5.out).mono ?_); rintro e w' ⟨rfl, ⟨nd, rfl⟩⟩; refine ⟨_, rfl, ?_⟩; (try (rw [drewN_self w14]; generalize hq_ : World.drewN w14 _ = w14; have n0_ : Aside0 (w14.heap[gb224]? = some (.cells #[.int .i8 a0_0, .int .i8 a0_1, .slice A0_2 l0_2.length c0_2] 37 (0, 0))) := ⟨by rw [← hq_]; exact (zh BK224).out⟩; have n1_ : Aside0 (w14.heap[gb225]? = some (.cells #[.int .i8 0, .int .i8 0, .slice none 0 0] 37 (0, 0))) := ⟨by rw [← hq_]; exact (zh BK225).out⟩; have n2_ : Aside0 (Below w.heap.size w w14) := ⟨by rw [← hq_]; exact (by repeat (first | (with_reducible first | exact HB.out | apply below_alloc | apply pw_below_drewN | apply below_drew1 | refine below_set ?_ GE224.out | refine below_set ?_ GE225.out) | exact HB.out))⟩; clear BK224 BK225 HB hq_; have BK224 := n0_; have BK225 := n1_; have HB := n2_; clear n0_ n1_ n2_)); obtain ⟨z15_0, z15_1, z15_2, y15_0, y15_1, y15_2⟩ := zB3 BK224) | ((with_reducible refine gate_callee (f := 113) rfl ?_); refine goesL_ (some 21) rfl rfl Try.func113 (by kernel_rfl) rfl #[.slice A0_2 l0_2.length c0_2] rfl (by (try simp only [List.map_toArray, List.map_cons, List.map_nil]); first | done | rfl | (simp only [List.length_drop, List.length_take]; rfl)) ?_; (with_reducible refine (impl_Piece.calls _ _ l0_2 t228 _ ?side1 ?side2 A7.out).mono ?_); (case side1 => exact zcc HB HR0_2.out); (case side2 => exact HC0_2.out); rintro e w16 ⟨v229, rfl, ho0, hb⟩; refine ⟨_, rfl, ?_⟩; have n_ : _ ∧ _ ∧ _ ∧ _ := ⟨Aside0.mk (Kd.R_lower ho0 (zz HB)), zk BK224 hb, zk BK225 hb, zbs hb⟩; clear BK224 BK225 HB; obtain ⟨HO230, BK224, BK225, HB⟩ := n_; (try clear hb); (try clear hb2); (try clear hk); (try clear hi); (try clear ho0); obtain ⟨Ao17, co17, eo17⟩ := Kd.R_slice HO230.out; subst eo17) | ((with_reducible refine gate_callee (f := 112) rfl ?_); refine goesL_ (some 22) rfl rfl Try.func112 (by kernel_rfl) rfl #[.pointer (some ⟨gb224, 0, none⟩), .slice Ao17 t228.length co17] rfl (by (try simp only [List.map_toArray, List.map_cons, List.map_nil]); first | done | rfl | (simp only [List.length_drop, List.length_take]; rfl)) ?_; (with_reducible refine (impl_Board_with.calls _ [(⟨a0_0, a0_1, l0_2⟩ : S37)] _ _ t228 t231 t232 _ ?side1 ?side2 ?side3 A8.out).mono ?_); (case side1 => refine ro_of_blk (T := 37) (cs := #[.int .i8 a0_0, .int .i8 a0_1, .slice A0_2 l0_2.length c0_2]) (zh BK224).out ?_; exact k37_mk _ (⟨a0_0, a0_1, l0_2⟩ : S37) (by exact HC0_2.out) (by exact zcc HB HR0_2.out)); (case side2 => exact zrc HO230); (case side3 => exact (Kd.R_reads' HO230.out).2.1); rintro e w18 ⟨rfl, hb⟩; refine ⟨_, rfl, ?_⟩; have n_ : _ ∧ _ ∧ _ ∧ _ := ⟨zr HO230 hb, zk BK224 hb, zk BK225 hb, zbs hb⟩; clear HO230 BK224 BK225 HB; obtain ⟨HO230, BK224, BK225, HB⟩ := n_; (try clear hb); (try clear hb2); (try clear hk); (try clear hi)) | ((with_reducible refine gate_dst (N := 6) rfl ?_); refine box_event ?hg (N := 6) ?hd (cs := #[.int .i8 0, .int .i8 0, .slice none 0 0]) (t := 37) ?hr ?_; (case hd => rfl); (case hg => rfl); (case hr => first | (go_simp; done) | (go_simp; rfl)); intro gb236 hg w19 hbox hb; have n_ : _ ∧ _ ∧ _ ∧ _ ∧ _ ∧ _ ∧ _ ∧ _ ∧ _ ∧ _ ∧ _ := ⟨zr HO230 hb, zk BK224 hb, zk BK225 hb, zbs hb, Aside0.mk (hbox), zg HB hg, zg HB hg, zn1 BK224 hg, zn2 BK224 hg, zn1 BK225 hg, zn2 BK225 hg⟩; clear HO230 BK224 BK225 HB; obtain ⟨HO230, BK224, BK225, HB, BK236, GW236, GE236, NB224_236, NB236_224, NB225_236, NB236_225⟩ := n_; clear hb hbox hg; have hnb20 := NB236_224.out; have hnc20 := NB224_236.out; have hnb21 := NB236_225.out; have hnc21 := NB225_236.out; obtain ⟨z22_0, z22_1, z22_2, y22_0, y22_1, y22_2⟩ := zB3 BK236) | ((with_reducible refine gate_callee (f := 137) rfl ?_); refine goesL_ (some 24) rfl rfl Try.func137 (by kernel_rfl) rfl #[.int .i64 a1] rfl (by (try simp only [List.map_toArray, List.map_cons, List.map_nil]); first | done | rfl | (simp only [List.length_drop, List.length_take]; rfl)) ?_; (with_reducible refine (impl_turns.calls a1 t237 _ A9.out).mono ?_); rintro e w' ⟨rfl, ⟨nd, rfl⟩⟩; refine ⟨_, rfl, ?_⟩))
 go_loopg [25] k (fun kq v25 w' => ∃ (x25_1 : Int) (x237000_1 : Int) (x237001_1 : Int) (x237002_1 : List (S91)) (u237002 : Value), v25 = .int .i64 x25_1 ∧ Aside0 (impl_TurnBoard.l0 kq t237 x25_1 x237000_1 x237001_1 x237002_1 = some (r1, r2, r3, r4)) ∧ Aside0 (kq ≤ k) ∧ Aside0 (Kd.R k91 91 w' w.heap.size (fun _ => True) u237002 x237002_1) ∧ Aside0 (w'.heap[gb224]? = some (.cells #[.int .i8 a0_0, .int .i8 a0_1, (.slice A0_2 l0_2.length c0_2)] 37 (0, 0))) ∧ Aside0 (w'.heap[gb225]? = some (.cells #[.int .i8 0, .int .i8 0, (.slice none 0 0)] 37 (0, 0))) ∧ Aside0 (w'.heap[gb236]? = some (.cells #[.int .i8 x237000_1, .int .i8 x237001_1, u237002] 37 (0, 0))) ∧ Aside0 (Below w.heap.size w w'))
 case atStart => exact ⟨(0), (t231), (t232), (t228), (.slice Ao17 t228.length co17), (by first | rfl | (simp; done) | (simp [*]; done) | (exact congrArg (Value.int .i64) (wrap_eq (by omega)))), H', ⟨Nat.le_refl _⟩, ⟨by (with_reducible repeat (first | apply Kd.R_alloc | apply Kd.R_drewN | apply Kd.R_drew)); exact Kd.R_mono (Kd.R_far (p := ⟨gb236, 2, none⟩) (Kd.R_far (p := ⟨gb236, 1, none⟩) (Kd.R_far (p := ⟨gb236, 0, none⟩) (Kd.R_types HO230.out BK236.out (by decide)) (fun _ hk => hk.2) (.int .i8 t231)) (fun _ hk => hk.2) (.int .i8 t232)) (fun _ hk => hk.2) (.slice Ao17 t228.length co17)) (fun _ hk => trivial)⟩, zf BK224 NB224_236, zf BK225 NB225_236, ⟨by (with_reducible repeat (first | refine blk_drewN ?_ _ | refine blk_drew ?_ | refine blk_alloc ?_ _)); refine blk_put (cs := #[.int .i8 t231, .int .i8 t232, .slice none 0 0]) ?_ 2 _ rfl; (with_reducible repeat (first | refine blk_drewN ?_ _ | refine blk_drew ?_ | refine blk_alloc ?_ _)); refine blk_put (cs := #[.int .i8 t231, .int .i8 0, .slice none 0 0]) ?_ 1 _ rfl; (with_reducible repeat (first | refine blk_drewN ?_ _ | refine blk_drew ?_ | refine blk_alloc ?_ _)); refine blk_put (cs := #[.int .i8 0, .int .i8 0, .slice none 0 0]) ?_ 0 _ rfl; (with_reducible repeat (first | refine blk_drewN ?_ _ | refine blk_drew ?_ | refine blk_alloc ?_ _)); exact BK236.out⟩, zba⟩
 clear H'
 try clear c1
 try clear c2
 try clear p2
 try clear c4
 try clear c6
 try clear c7
 try clear c11
 try clear c12
 try clear c13
 try clear c20
 try clear c21
 try clear z13_0 z13_1 z13_2
 try clear z15_0 z15_1 z15_2
 try clear z22_0 z22_1 z22_2
 try clear y13_0
 try clear y13_1
 try clear y13_2
 try clear y15_0
 try clear y15_1
 try clear y15_2
 try clear y22_0
 try clear y22_1
 try clear y22_2
 obtain ⟨x25_1, x237000_1, x237001_1, x237002_1, u237002, rfl, HA, HK1, HO_237002, BK224, BK225, BK236, HB⟩ := hrel
 cases gk with
 | zero => exact absurd HA.out (by simp [impl_TurnBoard.l0])
 | succ k1 => ?_
 have H := HA.out
 clear HA
 simp only [impl_TurnBoard.l0] at H
 by_cases c23 : x25_1 < t237
 rotate_left
 ·rw [if_neg c23] at H
  have c23b0 : decide (x25_1 < t237) = false := decide_eq_false c23
  clear c23
  simp only [Option.some.injEq, Prod.mk.injEq] at H
  obtain ⟨rfl, rfl, rfl, rfl⟩ := H
  have hnb50 := NB236_224.out
  have hnc50 := NB224_236.out
  have hnb51 := NB236_225.out
  have hnc51 := NB225_236.out
  obtain ⟨z52_0, z52_1, z52_2, y52_0, y52_1, y52_2⟩ := zB3 BK236
  have hnb53 := NB225_224.out
  have hnc53 := NB224_225.out
  obtain ⟨z54_0, z54_1, z54_2, y54_0, y54_1, y54_2⟩ := zB3 BK225
  obtain ⟨Ao55, co55, eo55⟩ := Kd.R_slice HO_237002.out
  subst eo55
  go_wp2
  refine bodyPost_ret (results_ct rfl _ _ gb225 37 #[.int .i8 x237000_1, .int .i8 x237001_1, .slice Ao55 x237002_1.length co55] (0, 0) _ rfl (by (with_reducible repeat (first | refine blk_drewN ?_ _ | refine blk_drew ?_ | refine blk_alloc ?_ _)); refine blk_put (cs := #[.int .i8 x237000_1, .int .i8 x237001_1, .slice none 0 0]) ?_ 2 _ rfl; (with_reducible repeat (first | refine blk_drewN ?_ _ | refine blk_drew ?_ | refine blk_alloc ?_ _)); refine blk_put (cs := #[.int .i8 x237000_1, .int .i8 0, .slice none 0 0]) ?_ 1 _ rfl; (with_reducible repeat (first | refine blk_drewN ?_ _ | refine blk_drew ?_ | refine blk_alloc ?_ _)); refine blk_put (cs := #[.int .i8 0, .int .i8 0, .slice none 0 0]) ?_ 0 _ rfl; (with_reducible repeat (first | refine blk_drewN ?_ _ | refine blk_drew ?_ | refine blk_alloc ?_ _)); exact BK225.out) Try.underlying37 rfl (by kernel_rfl)) rfl ?_
  exact ⟨_, by first | rfl | (simp [errW_none, errW_some] <;> rfl) | (simp [*, errW_none, errW_some] <;> rfl), by (with_reducible repeat (first | apply Kd.R_alloc | apply Kd.R_drewN | apply Kd.R_drew)); exact Kd.R_mono (Kd.R_far (p := ⟨gb225, 2, none⟩) (Kd.R_far (p := ⟨gb225, 1, none⟩) (Kd.R_far (p := ⟨gb225, 0, none⟩) (Kd.R_types HO_237002.out BK225.out (by decide)) (fun _ hk => hk.2) (.int .i8 x237000_1)) (fun _ hk => hk.2) (.int .i8 x237001_1)) (fun _ hk => hk.2) (.slice Ao55 x237002_1.length co55)) (fun _ hk => trivial), by repeat (first | (with_reducible first | exact HB.out | apply below_alloc | apply pw_below_drewN | apply below_drew1 | refine below_set ?_ GE224.out | refine below_set ?_ GE225.out | refine below_set ?_ GE236.out) | exact HB.out)⟩
 rw [if_pos c23] at H
 have c23b0 : decide (x25_1 < t237) = true := decide_eq_true c23
 clear c23
 have H' := Aside0.mk H
 clear H
 have hnb24 := NB236_224.out
 have hnc24 := NB224_236.out
 have hnb25 := NB236_225.out
 have hnc25 := NB225_236.out
 obtain ⟨z26_0, z26_1, z26_2, y26_0, y26_1, y26_2⟩ := zB3 BK236
 obtain ⟨Ao27, co27, eo27⟩ := Kd.R_slice HO_237002.out
 subst eo27
 go_wp2
 go_loopg [30] k1 (fun kq v30 w' => ∃ (x30_2 : Int) (x237002_2 : List (S91)) (u237002 : Value), v30 = .int .i64 x30_2 ∧ Aside0 (impl_TurnBoard.l1 kq t237 x25_1 (x237002_1.length : Int) x30_2 x237000_1 x237001_1 x237002_2 = some (r1, r2, r3, r4)) ∧ Aside0 (kq ≤ k1) ∧ Aside0 (Kd.R k91 91 w' w.heap.size (fun _ => True) u237002 x237002_2) ∧ Aside0 (w'.heap[gb224]? = some (.cells #[.int .i8 a0_0, .int .i8 a0_1, (.slice A0_2 l0_2.length c0_2)] 37 (0, 0))) ∧ Aside0 (w'.heap[gb225]? = some (.cells #[.int .i8 0, .int .i8 0, (.slice none 0 0)] 37 (0, 0))) ∧ Aside0 (w'.heap[gb236]? = some (.cells #[.int .i8 x237000_1, .int .i8 x237001_1, u237002] 37 (0, 0))) ∧ Aside0 (Below w.heap.size w w') ∧ Aside0 (u237002 = .slice Ao27 x237002_1.length co27))
 case atStart => exact ⟨(0), (x237002_1), (.slice Ao27 x237002_1.length co27), (by first | rfl | (simp; done) | (simp [*]; done) | (exact congrArg (Value.int .i64) (wrap_eq (by omega)))), H', ⟨Nat.le_refl _⟩, ze HO_237002, zh BK224, zh BK225, zh BK236, zba, ⟨rfl⟩⟩
 clear H'
 try clear c1
 try clear c2
 try clear p2
 try clear c4
 try clear c6
 try clear c7
 try clear c11
 try clear c12
 try clear c13
 try clear c20
 try clear c21
 try clear c23
 try clear c23b0
 try clear c24
 try clear c25
 try clear z13_0 z13_1 z13_2
 try clear z15_0 z15_1 z15_2
 try clear z22_0 z22_1 z22_2
 try clear z26_0 z26_1 z26_2
 try clear y13_0
 try clear y13_1
 try clear y13_2
 try clear y15_0
 try clear y15_1
 try clear y15_2
 try clear y22_0
 try clear y22_1
 try clear y22_2
 try clear y26_0
 try clear y26_1
 try clear y26_2
 try clear p2
 obtain ⟨x30_2, x237002_2, u237002, rfl, HA, HK2, HO_237002, BK224, BK225, BK236, HB, HU_⟩ := hrel
 cases gk with
 | zero => exact absurd HA.out (by simp [impl_TurnBoard.l1])
 | succ k2 => ?_
 have H := HA.out
 clear HA
 simp only [impl_TurnBoard.l1] at H
 by_cases c28 : x30_2 < (x237002_1.length : Int)
 rotate_left
 ·rw [if_neg c28] at H
  have c28b0 : decide (x30_2 < (x237002_1.length : Int)) = false := decide_eq_false c28
  clear c28
  have H' := Aside0.mk H
  clear H
  have hnb47 := NB236_224.out
  have hnc47 := NB224_236.out
  have hnb48 := NB236_225.out
  have hnc48 := NB225_236.out
  obtain ⟨z49_0, z49_1, z49_2, y49_0, y49_1, y49_2⟩ := zB3 BK236
  go_wp2
  go_roundg k2
  case measure => have := HK1.out; have := HK2.out; omega
  case rel => exact ⟨(wrap64 (x25_1 + 1)), (x237001_1), (x237000_1), (x237002_2), (u237002), (by first | rfl | (simp; done) | (simp [*]; done) | (exact congrArg (Value.int .i64) (wrap_eq (by omega)))), H', ⟨by have := HK1.out; have := HK2.out; omega⟩, ⟨by (with_reducible repeat (first | apply Kd.R_alloc | apply Kd.R_drewN | apply Kd.R_drew)); exact Kd.R_mono (Kd.R_far (p := ⟨gb236, 1, none⟩) (Kd.R_far (p := ⟨gb236, 0, none⟩) (Kd.R_types HO_237002.out BK236.out (by decide)) (fun _ hk => hk.2) (.int .i8 x237001_1)) (fun _ hk => hk.2) (.int .i8 x237000_1)) (fun _ hk => trivial)⟩, zf BK224 NB224_236, zf BK225 NB225_236, ⟨by (with_reducible repeat (first | refine blk_drewN ?_ _ | refine blk_drew ?_ | refine blk_alloc ?_ _)); refine blk_put (cs := #[.int .i8 x237001_1, .int .i8 x237001_1, u237002]) ?_ 1 _ rfl; (with_reducible repeat (first | refine blk_drewN ?_ _ | refine blk_drew ?_ | refine blk_alloc ?_ _)); refine blk_put (cs := #[.int .i8 x237000_1, .int .i8 x237001_1, u237002]) ?_ 0 _ rfl; (with_reducible repeat (first | refine blk_drewN ?_ _ | refine blk_drew ?_ | refine blk_alloc ?_ _)); exact BK236.out⟩, zba⟩
 rw [if_pos c28] at H
 have c28b0 : decide (x30_2 < (x237002_1.length : Int)) = true := decide_eq_true c28
 obtain ⟨Ao36, co36, eo36⟩ := Kd.R_slice HO_237002.out
 rw [← HU_.out]
 subst eo36
 clear c28
 by_cases c29 : 0 ≤ x30_2
 rotate_left
 ·rw [if_neg c29] at H
  exact absurd H (by simp)
 rw [if_pos c29] at H
 have c29b0 : decide (0 ≤ x30_2) = true := decide_eq_true c29
 clear c29
 by_cases c30 : x30_2 < (x237002_2.length : Int)
 rotate_left
 ·rw [if_neg c30] at H
  exact absurd H (by simp)
 rw [if_pos c30] at H
 have c30b0 : decide (x30_2 < (x237002_2.length : Int)) = true := decide_eq_true c30
 clear c30
 replace H := Option.bind_eq_some_iff.mp H
 obtain ⟨⟨t240, t241, t242, t243, t244⟩, A310, H⟩ := H
 replace H : (impl_TurnBoard.l1 k2 t237 x25_1 (x237002_1.length : Int) (wrap64 (x30_2 + 1)) x237000_1 x237001_1 (x237002_2.set (x30_2 : Int).toNat (⟨(⟨t240, t241⟩ : S74), t242, t243, t244⟩ : S91))) = some (r1, r2, r3, r4) := H
 have A31 := Aside0.mk A310
 clear A310
 obtain ⟨y245, hy245⟩ : ∃ y_ : List (S91), y_ = (x237002_2.set (x30_2 : Int).toNat (⟨(⟨t240, t241⟩ : S74), t242, t243, t244⟩ : S91)) := ⟨_, rfl⟩
 replace H : (impl_TurnBoard.l1 k2 t237 x25_1 (x237002_1.length : Int) (wrap64 (x30_2 + 1)) x237000_1 x237001_1 y245) = some (r1, r2, r3, r4) := by first | (rw [hy245]; with_reducible exact H) | (have H2_ := (Option.bind_some _ _).symm.trans H; rw [hy245]; with_reducible exact H2_) | (have H2_ := (Option.bind_some _ _).symm.trans H; with_reducible exact H2_) | with_reducible exact H | (rw [hy245]; exact H) | exact H
 have Ny245 := Aside0.mk hy245
 clear hy245
 have H' := Aside0.mk H
 clear H
 have hnb33 := NB236_224.out
 have hnc33 := NB224_236.out
 have hnb34 := NB236_225.out
 have hnc34 := NB225_236.out
 obtain ⟨z35_0, z35_1, z35_2, y35_0, y35_1, y35_2⟩ := zB3 BK236
 have p238 : 0 ≤ (x30_2 : Int) := of_decide_eq_true (by first | (with_reducible assumption) | assumption)
 have q238 : x30_2 < (x237002_2.length : Int) := of_decide_eq_true (by first | (with_reducible assumption) | assumption)
 obtain ⟨ad238, e238, hx238_0, hx238_1, hx238_2, hx238_3, hx238_4⟩ := at_T91 (Kd.R_reads' HO_237002.out).2.2 x30_2 p238 q238
 cases e238
 replace p238 := eq_true p238
 replace q238 := eq_true q238
 try go_wp2_with (first | ((with_reducible refine gate_dst (N := 8) rfl ?_); refine box_event ?hg (N := 8) ?hd (cs := #[.int .i8 0, .int .i8 0, .int .i8 0, .int .i8 0, .int .i8 0]) (t := 91) ?hr ?_; (case hd => rfl); (case hg => rfl); (case hr => first | (go_simp; done) | (go_simp; rfl)); intro gb239 hg w37 hbox hb; have n_ : _ ∧ _ ∧ _ ∧ _ ∧ _ ∧ _ ∧ _ ∧ _ ∧ _ ∧ _ ∧ _ ∧ _ ∧ _ ∧ _ := ⟨Aside0.mk (Kd.R_below (Kd.R_elderB (ze HO_237002).out gb239 (Nat.le_of_eq hg.symm)) hb), zk BK224 hb, zk BK225 hb, zk BK236 hb, zbs hb, Aside0.mk (hbox), zg HB hg, zg HB hg, zn1 BK224 hg, zn2 BK224 hg, zn1 BK225 hg, zn2 BK225 hg, zn1 BK236 hg, zn2 BK236 hg⟩; clear HO_237002 BK224 BK225 BK236 HB; obtain ⟨HO_237002, BK224, BK225, BK236, HB, BK239, GW239, GE239, NB224_239, NB239_224, NB225_239, NB239_225, NB236_239, NB239_236⟩ := n_; clear hb hbox hg; have hnb38 := NB239_224.out; have hnc38 := NB224_239.out; have hnb39 := NB239_225.out; have hnc39 := NB225_239.out; have hnb40 := NB239_236.out; have hnc40 := NB236_239.out; obtain ⟨z41_0, z41_1, z41_2, z41_3, z41_4, y41_0, y41_1, y41_2, y41_3, y41_4⟩ := zB5 BK239; obtain ⟨z42_0, z42_1, z42_2, y42_0, y42_1, y42_2⟩ := zB3 BK236))
 have n0_ : Aside0 (Kd.R k91 91 (((((((w37.setCell ⟨gb239, 0, none⟩ (.int .i8 ((rd_T91 x237002_2 x30_2).f0.f0))).setCell ⟨gb239, 1, none⟩ (.int .i8 ((rd_T91 x237002_2 x30_2).f0.f1))).setCell ⟨gb239, 2, none⟩ (.int .i8 ((rd_T91 x237002_2 x30_2).f1))).setCell ⟨gb239, 3, none⟩ (.int .i8 ((rd_T91 x237002_2 x30_2).f2))).setCell ⟨gb239, 4, none⟩ (.int .i8 ((rd_T91 x237002_2 x30_2).f3))).setCell ⟨gb239, 0, none⟩ (.int .i8 (IntKind.i8.wrap ((IntKind.i8.wrap (x237001_1 - 1)) - ((rd_T91 x237002_2 x30_2).f0.f1))))).setCell ⟨gb239, 1, none⟩ (.int .i8 ((rd_T91 x237002_2 x30_2).f0.f0))) w.heap.size (fun k_ => k_ ≠ gb239) (.slice (some ad238) x237002_2.length co36) x237002_2) := ⟨by (with_reducible repeat (first | apply Kd.R_alloc | apply Kd.R_drewN | apply Kd.R_drew)); exact Kd.R_mono (Kd.R_far (p := ⟨gb239, 1, none⟩) (Kd.R_far (p := ⟨gb239, 0, none⟩) (Kd.R_far (p := ⟨gb239, 4, none⟩) (Kd.R_far (p := ⟨gb239, 3, none⟩) (Kd.R_far (p := ⟨gb239, 2, none⟩) (Kd.R_far (p := ⟨gb239, 1, none⟩) (Kd.R_far (p := ⟨gb239, 0, none⟩) (Kd.R_mono HO_237002.out (fun k_ hk => (⟨hk, hk.2⟩ : _ ∧ k_ ≠ gb239))) (fun _ hk => hk.2) (.int .i8 ((rd_T91 x237002_2 x30_2).f0.f0))) (fun _ hk => hk.2) (.int .i8 ((rd_T91 x237002_2 x30_2).f0.f1))) (fun _ hk => hk.2) (.int .i8 ((rd_T91 x237002_2 x30_2).f1))) (fun _ hk => hk.2) (.int .i8 ((rd_T91 x237002_2 x30_2).f2))) (fun _ hk => hk.2) (.int .i8 ((rd_T91 x237002_2 x30_2).f3))) (fun _ hk => hk.2) (.int .i8 (IntKind.i8.wrap ((IntKind.i8.wrap (x237001_1 - 1)) - ((rd_T91 x237002_2 x30_2).f0.f1))))) (fun _ hk => hk.2) (.int .i8 ((rd_T91 x237002_2 x30_2).f0.f0))) (fun _ hk => hk.1.2)⟩
 have n1_ : Aside0 ((((((((w37.setCell ⟨gb239, 0, none⟩ (.int .i8 ((rd_T91 x237002_2 x30_2).f0.f0))).setCell ⟨gb239, 1, none⟩ (.int .i8 ((rd_T91 x237002_2 x30_2).f0.f1))).setCell ⟨gb239, 2, none⟩ (.int .i8 ((rd_T91 x237002_2 x30_2).f1))).setCell ⟨gb239, 3, none⟩ (.int .i8 ((rd_T91 x237002_2 x30_2).f2))).setCell ⟨gb239, 4, none⟩ (.int .i8 ((rd_T91 x237002_2 x30_2).f3))).setCell ⟨gb239, 0, none⟩ (.int .i8 (IntKind.i8.wrap ((IntKind.i8.wrap (x237001_1 - 1)) - ((rd_T91 x237002_2 x30_2).f0.f1))))).setCell ⟨gb239, 1, none⟩ (.int .i8 ((rd_T91 x237002_2 x30_2).f0.f0))).heap[gb224]? = some (.cells #[.int .i8 a0_0, .int .i8 a0_1, .slice A0_2 l0_2.length c0_2] 37 (0, 0))) := zf BK224 NB224_239
 have n2_ : Aside0 ((((((((w37.setCell ⟨gb239, 0, none⟩ (.int .i8 ((rd_T91 x237002_2 x30_2).f0.f0))).setCell ⟨gb239, 1, none⟩ (.int .i8 ((rd_T91 x237002_2 x30_2).f0.f1))).setCell ⟨gb239, 2, none⟩ (.int .i8 ((rd_T91 x237002_2 x30_2).f1))).setCell ⟨gb239, 3, none⟩ (.int .i8 ((rd_T91 x237002_2 x30_2).f2))).setCell ⟨gb239, 4, none⟩ (.int .i8 ((rd_T91 x237002_2 x30_2).f3))).setCell ⟨gb239, 0, none⟩ (.int .i8 (IntKind.i8.wrap ((IntKind.i8.wrap (x237001_1 - 1)) - ((rd_T91 x237002_2 x30_2).f0.f1))))).setCell ⟨gb239, 1, none⟩ (.int .i8 ((rd_T91 x237002_2 x30_2).f0.f0))).heap[gb225]? = some (.cells #[.int .i8 0, .int .i8 0, .slice none 0 0] 37 (0, 0))) := zf BK225 NB225_239
 have n3_ : Aside0 ((((((((w37.setCell ⟨gb239, 0, none⟩ (.int .i8 ((rd_T91 x237002_2 x30_2).f0.f0))).setCell ⟨gb239, 1, none⟩ (.int .i8 ((rd_T91 x237002_2 x30_2).f0.f1))).setCell ⟨gb239, 2, none⟩ (.int .i8 ((rd_T91 x237002_2 x30_2).f1))).setCell ⟨gb239, 3, none⟩ (.int .i8 ((rd_T91 x237002_2 x30_2).f2))).setCell ⟨gb239, 4, none⟩ (.int .i8 ((rd_T91 x237002_2 x30_2).f3))).setCell ⟨gb239, 0, none⟩ (.int .i8 (IntKind.i8.wrap ((IntKind.i8.wrap (x237001_1 - 1)) - ((rd_T91 x237002_2 x30_2).f0.f1))))).setCell ⟨gb239, 1, none⟩ (.int .i8 ((rd_T91 x237002_2 x30_2).f0.f0))).heap[gb236]? = some (.cells #[.int .i8 x237000_1, .int .i8 x237001_1, .slice (some ad238) x237002_2.length co36] 37 (0, 0))) := zf BK236 NB236_239
 have n4_ : Aside0 ((((((((w37.setCell ⟨gb239, 0, none⟩ (.int .i8 ((rd_T91 x237002_2 x30_2).f0.f0))).setCell ⟨gb239, 1, none⟩ (.int .i8 ((rd_T91 x237002_2 x30_2).f0.f1))).setCell ⟨gb239, 2, none⟩ (.int .i8 ((rd_T91 x237002_2 x30_2).f1))).setCell ⟨gb239, 3, none⟩ (.int .i8 ((rd_T91 x237002_2 x30_2).f2))).setCell ⟨gb239, 4, none⟩ (.int .i8 ((rd_T91 x237002_2 x30_2).f3))).setCell ⟨gb239, 0, none⟩ (.int .i8 (IntKind.i8.wrap ((IntKind.i8.wrap (x237001_1 - 1)) - ((rd_T91 x237002_2 x30_2).f0.f1))))).setCell ⟨gb239, 1, none⟩ (.int .i8 ((rd_T91 x237002_2 x30_2).f0.f0))).heap[gb239]? = some (.cells #[.int .i8 (IntKind.i8.wrap ((IntKind.i8.wrap (x237001_1 - 1)) - ((rd_T91 x237002_2 x30_2).f0.f1))), .int .i8 ((rd_T91 x237002_2 x30_2).f0.f0), .int .i8 ((rd_T91 x237002_2 x30_2).f1), .int .i8 ((rd_T91 x237002_2 x30_2).f2), .int .i8 ((rd_T91 x237002_2 x30_2).f3)] 91 (0, 0))) := ⟨by (with_reducible repeat (first | refine blk_drewN ?_ _ | refine blk_drew ?_ | refine blk_alloc ?_ _)); refine blk_put (cs := #[.int .i8 (IntKind.i8.wrap ((IntKind.i8.wrap (x237001_1 - 1)) - ((rd_T91 x237002_2 x30_2).f0.f1))), .int .i8 ((rd_T91 x237002_2 x30_2).f0.f1), .int .i8 ((rd_T91 x237002_2 x30_2).f1), .int .i8 ((rd_T91 x237002_2 x30_2).f2), .int .i8 ((rd_T91 x237002_2 x30_2).f3)]) ?_ 1 _ rfl; (with_reducible repeat (first | refine blk_drewN ?_ _ | refine blk_drew ?_ | refine blk_alloc ?_ _)); refine blk_put (cs := #[.int .i8 ((rd_T91 x237002_2 x30_2).f0.f0), .int .i8 ((rd_T91 x237002_2 x30_2).f0.f1), .int .i8 ((rd_T91 x237002_2 x30_2).f1), .int .i8 ((rd_T91 x237002_2 x30_2).f2), .int .i8 ((rd_T91 x237002_2 x30_2).f3)]) ?_ 0 _ rfl; (with_reducible repeat (first | refine blk_drewN ?_ _ | refine blk_drew ?_ | refine blk_alloc ?_ _)); refine blk_put (cs := #[.int .i8 ((rd_T91 x237002_2 x30_2).f0.f0), .int .i8 ((rd_T91 x237002_2 x30_2).f0.f1), .int .i8 ((rd_T91 x237002_2 x30_2).f1), .int .i8 ((rd_T91 x237002_2 x30_2).f2), .int .i8 0]) ?_ 4 _ rfl; (with_reducible repeat (first | refine blk_drewN ?_ _ | refine blk_drew ?_ | refine blk_alloc ?_ _)); refine blk_put (cs := #[.int .i8 ((rd_T91 x237002_2 x30_2).f0.f0), .int .i8 ((rd_T91 x237002_2 x30_2).f0.f1), .int .i8 ((rd_T91 x237002_2 x30_2).f1), .int .i8 0, .int .i8 0]) ?_ 3 _ rfl; (with_reducible repeat (first | refine blk_drewN ?_ _ | refine blk_drew ?_ | refine blk_alloc ?_ _)); refine blk_put (cs := #[.int .i8 ((rd_T91 x237002_2 x30_2).f0.f0), .int .i8 ((rd_T91 x237002_2 x30_2).f0.f1), .int .i8 0, .int .i8 0, .int .i8 0]) ?_ 2 _ rfl; (with_reducible repeat (first | refine blk_drewN ?_ _ | refine blk_drew ?_ | refine blk_alloc ?_ _)); refine blk_put (cs := #[.int .i8 ((rd_T91 x237002_2 x30_2).f0.f0), .int .i8 0, .int .i8 0, .int .i8 0, .int .i8 0]) ?_ 1 _ rfl; (with_reducible repeat (first | refine blk_drewN ?_ _ | refine blk_drew ?_ | refine blk_alloc ?_ _)); refine blk_put (cs := #[.int .i8 0, .int .i8 0, .int .i8 0, .int .i8 0, .int .i8 0]) ?_ 0 _ rfl; (with_reducible repeat (first | refine blk_drewN ?_ _ | refine blk_drew ?_ | refine blk_alloc ?_ _)); exact BK239.out⟩
 have n5_ : Aside0 (Below w.heap.size w (((((((w37.setCell ⟨gb239, 0, none⟩ (.int .i8 ((rd_T91 x237002_2 x30_2).f0.f0))).setCell ⟨gb239, 1, none⟩ (.int .i8 ((rd_T91 x237002_2 x30_2).f0.f1))).setCell ⟨gb239, 2, none⟩ (.int .i8 ((rd_T91 x237002_2 x30_2).f1))).setCell ⟨gb239, 3, none⟩ (.int .i8 ((rd_T91 x237002_2 x30_2).f2))).setCell ⟨gb239, 4, none⟩ (.int .i8 ((rd_T91 x237002_2 x30_2).f3))).setCell ⟨gb239, 0, none⟩ (.int .i8 (IntKind.i8.wrap ((IntKind.i8.wrap (x237001_1 - 1)) - ((rd_T91 x237002_2 x30_2).f0.f1))))).setCell ⟨gb239, 1, none⟩ (.int .i8 ((rd_T91 x237002_2 x30_2).f0.f0)))) := zba
 (try clear HO_237002)
 (try clear BK224)
 (try clear BK225)
 (try clear BK236)
 (try clear BK239)
 (try clear HB)
 generalize (((((((w37.setCell ⟨gb239, 0, none⟩ (.int .i8 ((rd_T91 x237002_2 x30_2).f0.f0))).setCell ⟨gb239, 1, none⟩ (.int .i8 ((rd_T91 x237002_2 x30_2).f0.f1))).setCell ⟨gb239, 2, none⟩ (.int .i8 ((rd_T91 x237002_2 x30_2).f1))).setCell ⟨gb239, 3, none⟩ (.int .i8 ((rd_T91 x237002_2 x30_2).f2))).setCell ⟨gb239, 4, none⟩ (.int .i8 ((rd_T91 x237002_2 x30_2).f3))).setCell ⟨gb239, 0, none⟩ (.int .i8 (IntKind.i8.wrap ((IntKind.i8.wrap (x237001_1 - 1)) - ((rd_T91 x237002_2 x30_2).f0.f1))))).setCell ⟨gb239, 1, none⟩ (.int .i8 ((rd_T91 x237002_2 x30_2).f0.f0))) = w43 at n0_ n1_ n2_ n3_ n4_ n5_ ⊢
 have HO_237002 := n0_
 have BK224 := n1_
 have BK225 := n2_
 have BK236 := n3_
 have BK239 := n4_
 have HB := n5_
 clear n0_ n1_ n2_ n3_ n4_ n5_
 have n0_ := Aside0.mk (Kd.R_drew HO_237002.out)
 have n1_ := Aside0.mk (blk_drew BK224.out)
 have n2_ := Aside0.mk (blk_drew BK225.out)
 have n3_ := Aside0.mk (blk_drew BK236.out)
 have n4_ := Aside0.mk (blk_drew BK239.out)
 have n5_ := Aside0.mk (below_drew1 HB.out)
 clear HO_237002
 clear BK224
 clear BK225
 clear BK236
 clear BK239
 clear HB
 have HO_237002 := n0_
 have BK224 := n1_
 have BK225 := n2_
 have BK236 := n3_
 have BK239 := n4_
 have HB := n5_
 clear n0_ n1_ n2_ n3_ n4_ n5_
 refine start_ (n := 7) (S := fun w' => w'.cell? ⟨gb236, 0, none⟩ = some (.int .i8 x237000_1) ∧ w'.cell? ⟨gb236, 1, none⟩ = some (.int .i8 x237001_1) ∧ w'.cell? ⟨gb236, 2, none⟩ = some (.slice (some ad238) x237002_2.length co36) ∧ w'.cell? ⟨gb239, 0, none⟩ = some (.int .i8 (IntKind.i8.wrap ((IntKind.i8.wrap (x237001_1 - 1)) - ((rd_T91 x237002_2 x30_2).f0.f1)))) ∧ w'.cell? ⟨gb239, 1, none⟩ = some (.int .i8 ((rd_T91 x237002_2 x30_2).f0.f0)) ∧ w'.cell? ⟨gb239, 2, none⟩ = some (.int .i8 ((rd_T91 x237002_2 x30_2).f1)) ∧ w'.cell? ⟨gb239, 3, none⟩ = some (.int .i8 ((rd_T91 x237002_2 x30_2).f2)) ∧ w'.cell? ⟨gb239, 4, none⟩ = some (.int .i8 ((rd_T91 x237002_2 x30_2).f3))) (ds := [6]) (zq 7 0) (by kernel_rfl) rfl rfl ⟨(blk_cell BK236.out 0).trans rfl, (blk_cell BK236.out 1).trans rfl, (blk_cell BK236.out 2).trans rfl, (blk_cell BK239.out 0).trans rfl, (blk_cell BK239.out 1).trans rfl, (blk_cell BK239.out 2).trans rfl, (blk_cell BK239.out 3).trans rfl, (blk_cell BK239.out 4).trans rfl⟩ (fun hHeld => ?_)
 generalize w43.drew = w44 at HO_237002 BK224 BK225 BK236 BK239 HB hHeld ⊢
 refine pure_ (i := 0) (N := some 47) (v := ?_) (a' := ?_) (zq 7 1) rfl rfl (by kernel_rfl) (fun _ _ _ h => h) (Or.inl ⟨by rfl, ?_⟩) ?_ ?_
 rotate_left
 ·intro w'
  go_simp
  with_reducible rfl
 rotate_left
 ·simp only [Act.put, List.setIfInBounds_toArray, List.set_cons_zero, List.set_cons_succ, i64_w, i32_w]
  rfl
 refine pure_ (i := 2) (N := some 49) (v := ?_) (a' := ?_) (zq 7 5) rfl rfl (by kernel_rfl) (fun _ _ _ h => h) (Or.inl ⟨by rfl, ?_⟩) ?_ ?_
 rotate_left
 ·intro w'
  go_simp
  with_reducible rfl
 rotate_left
 ·simp only [Act.put, List.setIfInBounds_toArray, List.set_cons_zero, List.set_cons_succ, i64_w, i32_w]
  rfl
 refine take_ (i := 1) (N := some 48) (v := ?_) (a' := ?_) (zq 7 7) rfl rfl (by kernel_rfl) (fun _ _ _ h => h) (Or.inl ⟨by rfl, ?_⟩) hHeld ?_ ?_
 rotate_left
 ·rintro w' ⟨s0, s1, s2, s3, s4, s5, s6, s7⟩
  go_simp
  with_reducible rfl
 rotate_left
 ·simp only [Act.put, List.setIfInBounds_toArray, List.set_cons_zero, List.set_cons_succ, i64_w, i32_w]
  rfl
 refine take_ (i := 3) (N := some 50) (v := ?_) (a' := ?_) (zq 7 15) rfl rfl (by kernel_rfl) (fun _ _ _ h => h) (Or.inl ⟨by rfl, ?_⟩) hHeld ?_ ?_
 rotate_left
 ·rintro w' ⟨s0, s1, s2, s3, s4, s5, s6, s7⟩
  go_simp
  with_reducible rfl
 rotate_left
 ·simp only [Act.put, List.setIfInBounds_toArray, List.set_cons_zero, List.set_cons_succ, i64_w, i32_w]
  rfl
 refine one_ (i := 4) (N := some 51) (zq 7 31) rfl rfl (by kernel_rfl) (by decide) (fun K hK => ?_)
 refine goes_ Try.func138 (by kernel_rfl) rfl #[.agg #[.int .i8 (IntKind.i8.wrap ((IntKind.i8.wrap (x237001_1 - 1)) - ((rd_T91 x237002_2 x30_2).f0.f1))), .int .i8 ((rd_T91 x237002_2 x30_2).f0.f0), .int .i8 ((rd_T91 x237002_2 x30_2).f1), .int .i8 ((rd_T91 x237002_2 x30_2).f2), .int .i8 ((rd_T91 x237002_2 x30_2).f3)], .int .i64 1] (by rfl) rfl rfl (by (try simp only [List.map_toArray, List.map_cons, List.map_nil]); first | done | rfl | (simp only [List.length_drop, List.length_take]; rfl)) ?_
 with_reducible refine (impl_Piece_turned.calls (IntKind.i8.wrap ((IntKind.i8.wrap (x237001_1 - 1)) - ((rd_T91 x237002_2 x30_2).f0.f1))) ((rd_T91 x237002_2 x30_2).f0.f0) ((rd_T91 x237002_2 x30_2).f1) ((rd_T91 x237002_2 x30_2).f2) ((rd_T91 x237002_2 x30_2).f3) 1 t240 t241 t242 t243 t244 _ A31.out).mono ?_
 rintro e w45 ⟨rfl, hb⟩
 refine ⟨_, rfl, ?_⟩
 have n0_ := zr HO_237002 hb
 have n1_ := zk BK224 hb
 have n2_ := zk BK225 hb
 have n3_ := zk BK236 hb
 have n4_ := Aside0.mk (blk_below (g := gb239) (o := .cells #[.int .i8 (IntKind.i8.wrap ((IntKind.i8.wrap (x237001_1 - 1)) - ((rd_T91 x237002_2 x30_2).f0.f1))), .int .i8 ((rd_T91 x237002_2 x30_2).f0.f0), .int .i8 ((rd_T91 x237002_2 x30_2).f1), .int .i8 ((rd_T91 x237002_2 x30_2).f2), .int .i8 ((rd_T91 x237002_2 x30_2).f3)] 91 (0, 0)) (zh BK239).out hb)
 have n5_ := zbs hb
 clear HO_237002
 clear BK224
 clear BK225
 clear BK236
 clear BK239
 clear HB
 have HO_237002 := n0_
 have BK224 := n1_
 have BK225 := n2_
 have BK236 := n3_
 have BK239 := n4_
 have HB := n5_
 clear n0_ n1_ n2_ n3_ n4_ n5_
 (try clear hb)
 (try clear hb2)
 (try clear hk)
 (try clear hi)
 have p32 : 0 ≤ (x30_2 : Int) := of_decide_eq_true (by first | (with_reducible assumption) | assumption)
 have q32 : (x30_2 : Int) < ((x237002_2.length : Int) : Int) := of_decide_eq_true (by first | (with_reducible assumption) | assumption)
 obtain ⟨go32, co32, eo32, gb32, gl32, cl32, HG32⟩ := Kd.R_form HO_237002.out (by omega)
 (first | cases eo32 | (injection eo32 with ea_ en_ ec_; (first | subst ea_ | (injection ea_ with ea_; subst ea_)); subst ec_; clear en_))
 have GB32 := Aside0.mk gb32
 have GG32 := Aside0.mk HG32
 clear gb32 gl32 HG32
 (first | simp only [add_plain] at hx238_0 | skip)
 (first | simp only [add_plain] at hx238_1 | skip)
 (first | simp only [add_plain] at hx238_2 | skip)
 (first | simp only [add_plain] at hx238_3 | skip)
 (first | simp only [add_plain] at hx238_4 | skip)
 obtain ⟨ce32, hcl32, hM32, hcc32, hfr32⟩ := Kd.R_elem HO_237002.out z91 (x30_2 : Int) p32 q32
 obtain rfl := k91_openM hM32
 have hx32_0 : World.cell? _ ⟨go32, (x30_2 : Int).toNat * 5, none⟩ = some (.int .i8 ((rd_T91 x237002_2 x30_2).f0.f0)) := hcc32 0 _ rfl
 have hx32_1 : World.cell? _ ⟨go32, (x30_2 : Int).toNat * 5 + 1, none⟩ = some (.int .i8 ((rd_T91 x237002_2 x30_2).f0.f1)) := hcc32 1 _ rfl
 have hx32_2 : World.cell? _ ⟨go32, (x30_2 : Int).toNat * 5 + 2, none⟩ = some (.int .i8 ((rd_T91 x237002_2 x30_2).f1)) := hcc32 2 _ rfl
 have hx32_3 : World.cell? _ ⟨go32, (x30_2 : Int).toNat * 5 + 3, none⟩ = some (.int .i8 ((rd_T91 x237002_2 x30_2).f2)) := hcc32 3 _ rfl
 have hx32_4 : World.cell? _ ⟨go32, (x30_2 : Int).toNat * 5 + 4, none⟩ = some (.int .i8 ((rd_T91 x237002_2 x30_2).f3)) := hcc32 4 _ rfl
 have hf32_0 : World.frozen? _ ⟨go32, (x30_2 : Int).toNat * 5, none⟩ = false := hfr32 0
 have hf32_1 : World.frozen? _ ⟨go32, (x30_2 : Int).toNat * 5 + 1, none⟩ = false := hfr32 1
 have hf32_2 : World.frozen? _ ⟨go32, (x30_2 : Int).toNat * 5 + 2, none⟩ = false := hfr32 2
 have hf32_3 : World.frozen? _ ⟨go32, (x30_2 : Int).toNat * 5 + 3, none⟩ = false := hfr32 3
 have hf32_4 : World.frozen? _ ⟨go32, (x30_2 : Int).toNat * 5 + 4, none⟩ = false := hfr32 4
 clear hcl32 hcc32 hfr32 hM32
 replace p32 := eq_true p32
 replace q32 := eq_true q32
 obtain ⟨ce46, hcl46, hM46, hcc46, hfr46⟩ := Kd.R_elem HO_237002.out z91 (x30_2 : Int) (of_decide_eq_true (by first | (with_reducible assumption) | assumption)) (by have h_ : (x30_2 : Int) < ((x237002_2.length : Int) : Int) := of_decide_eq_true (by first | (with_reducible assumption) | assumption); first | exact h_ | (have e_ := (Kd.R_reads' HO_237002.out).1; omega) | simpa using h_)
 obtain rfl := k91_openM hM46
 have HP46 := (Kd.R_seg HO_237002.out (x30_2 : Int) (of_decide_eq_true (by first | (with_reducible assumption) | assumption)) (by have h_ : (x30_2 : Int) < ((x237002_2.length : Int) : Int) := of_decide_eq_true (by first | (with_reducible assumption) | assumption); first | exact h_ | (have e_ := (Kd.R_reads' HO_237002.out).1; omega) | simpa using h_) (seg := [.int .i8 t240, .int .i8 t241, .int .i8 t242, .int .i8 t243, .int .i8 t244]) (j := 0) hcl46 hcc46 (show 5 ≤ 5 from by decide) (x' := (⟨(⟨t240, t241⟩ : S74), t242, t243, t244⟩ : S91)) (k91_mkM _ _ _ (⟨(⟨t240, t241⟩ : S74), t242, t243, t244⟩ : S91) ) (fun _ hk => hk)).1
 rw [← Ny245.out] at HP46
 have HQ46 := Aside0.mk HP46
 clear hcl46 hcc46 hfr46 hM46 HP46
 refine hK.out _ _ ⟨(blk_cell BK236.out 0).trans rfl, (blk_cell BK236.out 1).trans rfl, (blk_cell BK236.out 2).trans rfl, (blk_cell BK239.out 0).trans rfl, (blk_cell BK239.out 1).trans rfl, (blk_cell BK239.out 2).trans rfl, (blk_cell BK239.out 3).trans rfl, (blk_cell BK239.out 4).trans rfl⟩ (fun hHeld => ?_)
 clear hK K
 refine norm_ (a' := ?_) ?_ ?_
 rotate_left
 ·show Act.put _ (some 51) _ = _
  simp only [Act.put, List.setIfInBounds_toArray, List.set_cons_zero, List.set_cons_succ, i64_w, i32_w]
  rfl
 refine pure_ (i := 5) (N := some 52) (v := ?_) (a' := ?_) (zq 7 63) rfl rfl (by kernel_rfl) (fun _ _ _ h => h) (Or.inl ⟨by rfl, ?_⟩) ?_ ?_
 rotate_left
 ·intro w'
  go_simp
  with_reducible rfl
 rotate_left
 ·simp only [Act.put, List.setIfInBounds_toArray, List.set_cons_zero, List.set_cons_succ, i64_w, i32_w]
  rfl
 refine last_ (i := 6) (N := none) (zq 7 127) rfl rfl (by kernel_rfl) (by decide) (fun K hK => ?_)
 refine skip_ (w1 := ?_) (by rfl) rfl ?_ ?_
 rotate_left
 ·go_simp
  rfl
 refine hK.out _ _ ?_
 clear hK K
 refine done_ (by kernel_rfl) ?_
 try go_wp2
 rw [HU_.out]
 go_roundg k2
 case measure => have := HK1.out; have := HK2.out; omega
 case rel => exact ⟨(wrap64 (x30_2 + 1)), (y245), (.slice (some ⟨go32, 0, none⟩) x237002_2.length co36), (by first | rfl | (simp; done) | (simp [*]; done) | (exact congrArg (Value.int .i64) (wrap_eq (by omega)))), H', ⟨by have := HK1.out; have := HK2.out; omega⟩, ⟨by (with_reducible repeat (first | apply Kd.R_alloc | apply Kd.R_drewN | apply Kd.R_drew)); exact Kd.R_mono HQ46.out (fun _ hk => trivial)⟩, ⟨by (with_reducible repeat (first | refine blk_drewN ?_ _ | refine blk_drew ?_ | refine blk_alloc ?_ _)); refine blk_far ?_ (by have h_ := Kd.R_ne HO_237002.out BK224.out (by decide); intro e_; exact h_ (by rw [e_]; rfl)) _; (with_reducible repeat (first | refine blk_drewN ?_ _ | refine blk_drew ?_ | refine blk_alloc ?_ _)); refine blk_far ?_ (by have h_ := Kd.R_ne HO_237002.out BK224.out (by decide); intro e_; exact h_ (by rw [e_]; rfl)) _; (with_reducible repeat (first | refine blk_drewN ?_ _ | refine blk_drew ?_ | refine blk_alloc ?_ _)); refine blk_far ?_ (by have h_ := Kd.R_ne HO_237002.out BK224.out (by decide); intro e_; exact h_ (by rw [e_]; rfl)) _; (with_reducible repeat (first | refine blk_drewN ?_ _ | refine blk_drew ?_ | refine blk_alloc ?_ _)); refine blk_far ?_ (by have h_ := Kd.R_ne HO_237002.out BK224.out (by decide); intro e_; exact h_ (by rw [e_]; rfl)) _; (with_reducible repeat (first | refine blk_drewN ?_ _ | refine blk_drew ?_ | refine blk_alloc ?_ _)); refine blk_far ?_ (by have h_ := Kd.R_ne HO_237002.out BK224.out (by decide); intro e_; exact h_ (by rw [e_]; rfl)) _; (with_reducible repeat (first | refine blk_drewN ?_ _ | refine blk_drew ?_ | refine blk_alloc ?_ _)); exact BK224.out⟩, ⟨by (with_reducible repeat (first | refine blk_drewN ?_ _ | refine blk_drew ?_ | refine blk_alloc ?_ _)); refine blk_far ?_ (by have h_ := Kd.R_ne HO_237002.out BK225.out (by decide); intro e_; exact h_ (by rw [e_]; rfl)) _; (with_reducible repeat (first | refine blk_drewN ?_ _ | refine blk_drew ?_ | refine blk_alloc ?_ _)); refine blk_far ?_ (by have h_ := Kd.R_ne HO_237002.out BK225.out (by decide); intro e_; exact h_ (by rw [e_]; rfl)) _; (with_reducible repeat (first | refine blk_drewN ?_ _ | refine blk_drew ?_ | refine blk_alloc ?_ _)); refine blk_far ?_ (by have h_ := Kd.R_ne HO_237002.out BK225.out (by decide); intro e_; exact h_ (by rw [e_]; rfl)) _; (with_reducible repeat (first | refine blk_drewN ?_ _ | refine blk_drew ?_ | refine blk_alloc ?_ _)); refine blk_far ?_ (by have h_ := Kd.R_ne HO_237002.out BK225.out (by decide); intro e_; exact h_ (by rw [e_]; rfl)) _; (with_reducible repeat (first | refine blk_drewN ?_ _ | refine blk_drew ?_ | refine blk_alloc ?_ _)); refine blk_far ?_ (by have h_ := Kd.R_ne HO_237002.out BK225.out (by decide); intro e_; exact h_ (by rw [e_]; rfl)) _; (with_reducible repeat (first | refine blk_drewN ?_ _ | refine blk_drew ?_ | refine blk_alloc ?_ _)); exact BK225.out⟩, ⟨by (with_reducible repeat (first | refine blk_drewN ?_ _ | refine blk_drew ?_ | refine blk_alloc ?_ _)); refine blk_far ?_ (by have h_ := Kd.R_ne HO_237002.out BK236.out (by decide); intro e_; exact h_ (by rw [e_]; rfl)) _; (with_reducible repeat (first | refine blk_drewN ?_ _ | refine blk_drew ?_ | refine blk_alloc ?_ _)); refine blk_far ?_ (by have h_ := Kd.R_ne HO_237002.out BK236.out (by decide); intro e_; exact h_ (by rw [e_]; rfl)) _; (with_reducible repeat (first | refine blk_drewN ?_ _ | refine blk_drew ?_ | refine blk_alloc ?_ _)); refine blk_far ?_ (by have h_ := Kd.R_ne HO_237002.out BK236.out (by decide); intro e_; exact h_ (by rw [e_]; rfl)) _; (with_reducible repeat (first | refine blk_drewN ?_ _ | refine blk_drew ?_ | refine blk_alloc ?_ _)); refine blk_far ?_ (by have h_ := Kd.R_ne HO_237002.out BK236.out (by decide); intro e_; exact h_ (by rw [e_]; rfl)) _; (with_reducible repeat (first | refine blk_drewN ?_ _ | refine blk_drew ?_ | refine blk_alloc ?_ _)); refine blk_far ?_ (by have h_ := Kd.R_ne HO_237002.out BK236.out (by decide); intro e_; exact h_ (by rw [e_]; rfl)) _; (with_reducible repeat (first | refine blk_drewN ?_ _ | refine blk_drew ?_ | refine blk_alloc ?_ _)); exact BK236.out⟩, zba, HU_⟩
end Go.Proofs.Ytffnfpnajkgnaaa.PFnExactTurnBoard
