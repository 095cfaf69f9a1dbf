-- WRITTEN by xprint.py, a program of this session's. Not trusted: Lean checks it.
-- packed by pack.py
import Derived.Test.YtffnfpnajkgnaaaPFnExactPutPiecex0
import Derived.Test.YtffnfpnajkgnaaaPFnExactPutPiecex6
import Derived.Test.YtffnfpnajkgnaaaPFnExactPutPiecex7
import Derived.Test.YtffnfpnajkgnaaaTFnExactPutPiecea
namespace Go.Proofs.Ytffnfpnajkgnaaa.PFnExactPutPiece
open Go.RowKit Go.Proofs.YtffnfpnajkgnaaaW.PrintWords Go.Proofs.YtffnfpnajkgnaaaW.PrintLast Go.Proofs.YtffnfpnajkgnaaaW.PrintMore Go.Proofs.YtffnfpnajkgnaaaX
attribute [local go_sem] max2_int min2_int max_two min_two max_three min_three max_four min_four   -- for this text's walks alone
set_option linter.unusedVariables false
set_option linter.unusedSimpArgs false

/-! ### impl_PutPiece: function 66 -/
def impl_PutPiece.j0 : Nat → Bool → Int → Int → List (S91) → Int → Int → Int → Int → Int → Option (Int × Int × (List (S91)) × Int)
  | 0, _, _, _, _, _, _, _, _, _ => none
  | k + 1, x6, x227000, x227001, x227002, x228000, x228001, x228002, x228003, x228004 => if x6 = true then (some (0, 0, ([] : List (S91)), 1)) else ((impl_Board_has.f [(⟨x227000, x227001, x227002⟩ : S37)] x228000 x228001).bind fun t231 => (if t231 = true then ((impl_Board_at.f k [(⟨x227000, x227001, x227002⟩ : S37)] x228000 x228001).bind fun t232 => (if t232 ≥ 0 then (some (0, 0, ([] : List (S91)), 4)) else (if (x227002.length : Int) = 200 then (some (0, 0, ([] : List (S91)), 3)) else ((impl_Piece_113.f x227002).bind fun t233 => ((some (([(⟨(⟨x228000, x228001⟩ : S74), x228002, x228003, x228004⟩ : S91)] : List (S91)) : List (S91))).bind fun y236 => (if t233.length + y236.length < 28147497671065 then ((some (t233 ++ y236 : List (S91))).bind fun y239 => ((impl_Board_with.f [(⟨x227000, x227001, x227002⟩ : S37)] y239).bind fun bt242 => (some (bt242.1, bt242.2, y239, 0)))) else (none))))))) else (some (0, 0, ([] : List (S91)), 2))))
def impl_PutPiece.f (k : Nat) (a0_0 : Int) (a0_1 : Int) (l0_2 : List (S91)) (a1_0 : Int) (a1_1 : Int) (a1_2 : Int) (a1_3 : Int) (a1_4 : Int) : Option (Int × Int × (List (S91)) × Int) := (impl_ValidBoard.f k a0_0 a0_1 l0_2).bind fun t229 => (if t229 = true then ((impl_ValidPiece.f a1_0 a1_1 a1_2 a1_3 a1_4).bind fun t230 => (impl_PutPiece.j0 k (!t230) a0_0 a0_1 l0_2 a1_0 a1_1 a1_2 a1_3 a1_4)) else (impl_PutPiece.j0 k true a0_0 a0_1 l0_2 a1_0 a1_1 a1_2 a1_3 a1_4))
theorem impl_PutPiece.mono_l : ∀ k, (∀ y0 y1 y2 y3 y4 y5 y6 y7 y8, LeO (impl_PutPiece.j0 k y0 y1 y2 y3 y4 y5 y6 y7 y8) (impl_PutPiece.j0 (k + 1) y0 y1 y2 y3 y4 y5 y6 y7 y8))
  | 0 => fun _ _ _ _ _ _ _ _ _ r h => by simp [impl_PutPiece.j0] at h
  | k + 1 => by
    have ih0 := impl_PutPiece.mono_l k
    · intro y0 y1 y2 y3 y4 y5 y6 y7 y8
      unfold impl_PutPiece.j0
      repeat' first | (with_reducible first | apply ih0 | apply impl_Board_at.mono | apply impl_ValidBoard.mono | exact LeO.refl _ | exact LeO.none _ | refine LeO.ite ?_ ?_ | refine LeO.bind ?_ (fun _ => ?_)) | apply ih0 | apply impl_Board_at.mono | apply impl_ValidBoard.mono | exact LeO.none _ | refine LeO.ite ?_ ?_ | refine LeO.bind ?_ (fun _ => ?_)
theorem impl_PutPiece.mono : ∀ a0 a1 a2 a3 a4 a5 a6 a7 k, LeO (impl_PutPiece.f k a0 a1 a2 a3 a4 a5 a6 a7) (impl_PutPiece.f (k + 1) a0 a1 a2 a3 a4 a5 a6 a7) := by
 intro a0 a1 a2 a3 a4 a5 a6 a7 k
 have ih0 := impl_PutPiece.mono_l k
 unfold impl_PutPiece.f
 repeat' first | (with_reducible first | apply ih0 | apply impl_Board_at.mono | apply impl_ValidBoard.mono | exact LeO.refl _ | exact LeO.none _ | refine LeO.ite ?_ ?_ | refine LeO.bind ?_ (fun _ => ?_)) | apply ih0 | apply impl_Board_at.mono | apply impl_ValidBoard.mono | exact LeO.none _ | refine LeO.ite ?_ ?_ | refine LeO.bind ?_ (fun _ => ?_)
def impl_PutPiece.T9 : Bool × List (List Nat × List Nat) := (true, [([], []), ([0], [0]), ([1], [1]), ([], []), ([3], [3]), ([2, 4, 2], [2, 4]), ([5, 5], [5]), ([6, 6, 0, 1, 2, 3, 4, 5, 6], [6]), ([7, 0, 1, 2, 3, 4, 5, 6, 7], [])])
def impl_PutPiece.B9 : List Nat := [0, 1, 3, 0, 8, 31, 63, 127, 255]
theorem impl_PutPiece.tab9 : rtab .any (opsOf Try.f66 9) = impl_PutPiece.T9 := by kernel_rfl
theorem impl_PutPiece.bits9 : waitsOk impl_PutPiece.T9.2 impl_PutPiece.B9 = true := by kernel_rfl
set_option maxHeartbeats 8000000 in
set_option maxRecDepth 100000 in
theorem impl_PutPiece.calls (k : Nat) (a0_0 : Int) (a0_1 : Int) (A0_2 : Option Addr) (c0_2 : Nat) (l0_2 : List (S91)) (a1_0 : Int) (a1_1 : Int) (a1_2 : Int) (a1_3 : Int) (a1_4 : Int) (r1 : Int) (r2 : Int) (r3 : List (S91)) (r4 : Int) (w : World) (hr0_2 : Kd.C k91 w A0_2 l0_2.length l0_2) (hc0_2 : l0_2.length ≤ c0_2) (h : impl_PutPiece.f k a0_0 a0_1 l0_2 a1_0 a1_1 a1_2 a1_3 a1_4 = some (r1, r2, r3, r4)) :
    Calls Try.prog 66 #[.agg #[.int .i8 a0_0, .int .i8 a0_1, .slice A0_2 l0_2.length c0_2], .agg #[.int .i8 a1_0, .int .i8 a1_1, .int .i8 a1_2, .int .i8 a1_3, .int .i8 a1_4]] w fun e w' => ∃ v2_ : Value, e = .returned (.tuple #[.agg #[.int .i8 r1, .int .i8 r2, v2_], .int .i64 r4]) ∧ Kd.R k91 91 w' w.heap.size (fun _ => True) v2_ r3 ∧ Below w.heap.size w w' := by
 have hu37 := Try.underlying37
 have hu91 := Try.underlying91
 have hu74 := Try.underlying74
 have HR0_2 := Aside0.mk hr0_2
 have HC0_2 := Aside0.mk hc0_2
 clear hr0_2 hc0_2
 have HB := Aside0.mk (Below.refl w.heap.size w)
 have H : ((impl_ValidBoard.f k a0_0 a0_1 l0_2).bind fun t229 => (if t229 = true then ((impl_ValidPiece.f a1_0 a1_1 a1_2 a1_3 a1_4).bind fun t230 => (impl_PutPiece.j0 k (!t230) a0_0 a0_1 l0_2 a1_0 a1_1 a1_2 a1_3 a1_4)) else (impl_PutPiece.j0 k true a0_0 a0_1 l0_2 a1_0 a1_1 a1_2 a1_3 a1_4))) = some (r1, r2, r3, r4) := h
 clear h
 have HC3 := Aside0.mk H
 clear H
 go_enter Try.func66, Try.ntmps66
 go_upto_region 1 with (first | ((with_reducible refine gate_dst (N := 2) rfl ?_); refine box_event ?hg (N := 2) ?hd (cs := #[.int .i8 a0_0, .int .i8 a0_1, .slice A0_2 l0_2.length c0_2]) (t := 37) ?hr ?_; (case hd => rfl); (case hg => rfl); (case hr => first | (go_simp; done) | (go_simp; rfl)); intro gb226 hg w4 hbox hb; have n_ : _ ∧ _ ∧ _ ∧ _ := ⟨zb HB hb, Aside0.mk (hbox), zg HB hg, zg HB hg⟩; clear HB; obtain ⟨HB, BK226, GW226, GE226⟩ := n_; clear hb hbox hg) | ((with_reducible refine gate_dst (N := 3) rfl ?_); refine box_event ?hg (N := 3) ?hd (cs := #[.int .i8 a1_0, .int .i8 a1_1, .int .i8 a1_2, .int .i8 a1_3, .int .i8 a1_4]) (t := 91) ?hr ?_; (case hd => rfl); (case hg => rfl); (case hr => first | (go_simp; done) | (go_simp; rfl)); intro gb227 hg w5 hbox hb; have n_ : _ ∧ _ ∧ _ ∧ _ ∧ _ ∧ _ ∧ _ := ⟨zk BK226 hb, zbs hb, Aside0.mk (hbox), zg HB hg, zg HB hg, zn1 BK226 hg, zn2 BK226 hg⟩; clear BK226 HB; obtain ⟨BK226, HB, BK227, GW227, GE227, NB226_227, NB227_226⟩ := n_; clear hb hbox hg) | ((with_reducible refine gate_dst (N := 4) rfl ?_); refine box_event ?hg (N := 4) ?hd (cs := #[.int .i8 0, .int .i8 0, .slice none 0 0]) (t := 37) ?hr ?_; (case hd => rfl); (case hg => rfl); (case hr => first | (go_simp; done) | (go_simp; rfl)); intro gb228 hg w6 hbox hb; have n_ : _ ∧ _ ∧ _ ∧ _ ∧ _ ∧ _ ∧ _ ∧ _ ∧ _ ∧ _ := ⟨zk BK226 hb, zk BK227 hb, zbs hb, Aside0.mk (hbox), zg HB hg, zg HB hg, zn1 BK226 hg, zn2 BK226 hg, zn1 BK227 hg, zn2 BK227 hg⟩; clear BK226 BK227 HB; obtain ⟨BK226, BK227, HB, BK228, GW228, GE228, NB226_228, NB228_226, NB227_228, NB228_227⟩ := n_; clear hb hbox hg))
 (try simp only [Act.put, List.setIfInBounds_toArray, List.set_cons_zero, List.set_cons_succ])
 go_cut [6] (fun v6 wc => ∃ (kq : Nat) (x6_2 : Bool), v6 = .bool x6_2 ∧ Aside0 (impl_PutPiece.j0 kq x6_2 a0_0 a0_1 l0_2 a1_0 a1_1 a1_2 a1_3 a1_4 = some (r1, r2, r3, r4)) ∧ Aside0 (kq ≤ k) ∧ Aside0 (wc.heap[gb226]? = some (.cells #[.int .i8 a0_0, .int .i8 a0_1, (.slice A0_2 l0_2.length c0_2)] 37 (0, 0))) ∧ Aside0 (wc.heap[gb227]? = some (.cells #[.int .i8 a1_0, .int .i8 a1_1, .int .i8 a1_2, .int .i8 a1_3, .int .i8 a1_4] 91 (0, 0))) ∧ Aside0 (wc.heap[gb228]? = some (.cells #[.int .i8 0, .int .i8 0, (.slice none 0 0)] 37 (0, 0))) ∧ Aside0 (Below w.heap.size w wc))
 case first =>
  have H := HC3.out
  clear HC3
  replace H := Option.bind_eq_some_iff.mp H
  obtain ⟨t229, A70, H⟩ := H
  replace H : (if t229 = true then ((impl_ValidPiece.f a1_0 a1_1 a1_2 a1_3 a1_4).bind fun t230 => (impl_PutPiece.j0 k (!t230) a0_0 a0_1 l0_2 a1_0 a1_1 a1_2 a1_3 a1_4)) else (impl_PutPiece.j0 k true a0_0 a0_1 l0_2 a1_0 a1_1 a1_2 a1_3 a1_4)) = some (r1, r2, r3, r4) := H
  have A7 := Aside0.mk A70
  clear A70
  by_cases c8 : t229 = true
  rotate_left
  ·replace c8 := Bool.eq_false_iff.mpr c8
   subst c8
   have H1 : (impl_PutPiece.j0 k true a0_0 a0_1 l0_2 a1_0 a1_1 a1_2 a1_3 a1_4) = some (r1, r2, r3, r4) := by rw [if_neg (show ¬ (false = true) by decide)] at H; exact H
   clear H
   have H := H1
   clear H1
   have H' := Aside0.mk H
   clear H
   have hnb17 := NB226_227.out
   have hnc17 := NB227_226.out
   have hnb18 := NB226_228.out
   have hnc18 := NB228_226.out
   obtain ⟨z19_0, z19_1, z19_2, y19_0, y19_1, y19_2⟩ := zB3 BK226
   go_wp2_with (first | ((with_reducible refine gate_callee (f := 43) rfl ?_); refine goesL_ (some 8) rfl rfl Try.func43 (by kernel_rfl) rfl #[.agg #[.int .i8 a0_0, .int .i8 a0_1, .slice A0_2 l0_2.length c0_2]] rfl (by (try simp only [List.map_toArray, List.map_cons, List.map_nil]); first | done | rfl | (simp only [List.length_drop, List.length_take]; rfl)) ?_; (with_reducible refine (impl_ValidBoard.calls k a0_0 a0_1 _ _ l0_2 false _ ?side1 ?side2 A7.out).mono ?_); (case side1 => exact zcc HB HR0_2.out); (case side2 => exact HC0_2.out); rintro e w20 ⟨rfl, hb⟩; refine ⟨_, rfl, ?_⟩; have n_ : _ ∧ _ ∧ _ ∧ _ := ⟨zk BK226 hb, zk BK227 hb, zk BK228 hb, zbs hb⟩; clear BK226 BK227 BK228 HB; obtain ⟨BK226, BK227, BK228, HB⟩ := n_; (try clear hb); (try clear hb2); (try clear hk); (try clear hi)))
   go_meet
   case rel => exact ⟨_, (true), (by first | rfl | (simp; done) | (simp [*]; done) | (exact congrArg (Value.int .i64) (wrap_eq (by omega)))), H', ⟨by first | omega | exact Nat.le_refl _⟩, zh BK226, zh BK227, zh BK228, zba⟩
  subst c8
  have H1 : ((impl_ValidPiece.f a1_0 a1_1 a1_2 a1_3 a1_4).bind fun t230 => (impl_PutPiece.j0 k (!t230) a0_0 a0_1 l0_2 a1_0 a1_1 a1_2 a1_3 a1_4)) = some (r1, r2, r3, r4) := by rw [if_pos rfl] at H; exact H
  clear H
  have H := H1
  clear H1
  replace H := Option.bind_eq_some_iff.mp H
  obtain ⟨t230, A90, H⟩ := H
  replace H : (impl_PutPiece.j0 k (!t230) a0_0 a0_1 l0_2 a1_0 a1_1 a1_2 a1_3 a1_4) = some (r1, r2, r3, r4) := H
  have A9 := Aside0.mk A90
  clear A90
  have H' := Aside0.mk H
  clear H
  have hnb10 := NB226_227.out
  have hnc10 := NB227_226.out
  have hnb11 := NB226_228.out
  have hnc11 := NB228_226.out
  obtain ⟨z12_0, z12_1, z12_2, y12_0, y12_1, y12_2⟩ := zB3 BK226
  go_wp2_with (first | ((with_reducible refine gate_callee (f := 43) rfl ?_); refine goesL_ (some 8) rfl rfl Try.func43 (by kernel_rfl) rfl #[.agg #[.int .i8 a0_0, .int .i8 a0_1, .slice A0_2 l0_2.length c0_2]] rfl (by (try simp only [List.map_toArray, List.map_cons, List.map_nil]); first | done | rfl | (simp only [List.length_drop, List.length_take]; rfl)) ?_; (with_reducible refine (impl_ValidBoard.calls k a0_0 a0_1 _ _ l0_2 true _ ?side1 ?side2 A7.out).mono ?_); (case side1 => exact zcc HB HR0_2.out); (case side2 => exact HC0_2.out); rintro e w13 ⟨rfl, hb⟩; refine ⟨_, rfl, ?_⟩; have n_ : _ ∧ _ ∧ _ ∧ _ := ⟨zk BK226 hb, zk BK227 hb, zk BK228 hb, zbs hb⟩; clear BK226 BK227 BK228 HB; obtain ⟨BK226, BK227, BK228, HB⟩ := n_; (try clear hb); (try clear hb2); (try clear hk); (try clear hi); have hnb14 := NB227_228.out; have hnc14 := NB228_227.out; obtain ⟨z15_0, z15_1, z15_2, z15_3, z15_4, y15_0, y15_1, y15_2, y15_3, y15_4⟩ := zB5 BK227) | (go_at_call 108; (with_reducible refine (impl_ValidPiece.calls a1_0 a1_1 a1_2 a1_3 a1_4 t230 _ A9.out).mono ?_); rintro e w16 ⟨rfl, hb⟩; have n_ : _ ∧ _ ∧ _ ∧ _ := ⟨zk BK226 hb, zk BK227 hb, zk BK228 hb, zbs hb⟩; clear BK226 BK227 BK228 HB; obtain ⟨BK226, BK227, BK228, HB⟩ := n_; (try clear hb); (try clear hb2); (try clear hk); (try clear hi)))
  go_meet
  case rel => exact ⟨_, (!t230), (by first | rfl | (simp; done) | (simp [*]; done) | (exact congrArg (Value.int .i64) (wrap_eq (by omega)))), H', ⟨by first | omega | exact Nat.le_refl _⟩, zh BK226, zh BK227, zh BK228, zba⟩
 clear HC3
 try clear c1
 try clear p2
 try clear c4
 try clear c6
 try clear c8
 try clear c10
 try clear c11
 try clear c14
 try clear c17
 try clear c18
 try clear z12_0 z12_1 z12_2
 try clear z15_0 z15_1 z15_2 z15_3 z15_4
 try clear z19_0 z19_1 z19_2
 try clear y12_0
 try clear y12_1
 try clear y12_2
 try clear y15_0
 try clear y15_1
 try clear y15_2
 try clear y15_3
 try clear y15_4
 try clear y19_0
 try clear y19_1
 try clear y19_2
 obtain ⟨kq, x6_2, rfl, HA, HJ2, BK226, BK227, BK228, HB⟩ := hcut
 cases kq with
 | zero => exact absurd HA.out (by simp [impl_PutPiece.j0])
 | succ kj2 => ?_
 have H := HA.out
 clear HA
 simp only [impl_PutPiece.j0] at H
 by_cases c21 : x6_2 = true
 ·subst c21
  have H1 : (some (0, 0, ([] : List (S91)), 1)) = some (r1, r2, r3, r4) := by rw [if_pos rfl] at H; exact H
  clear H
  have H := H1
  clear H1
  simp only [Option.some.injEq, Prod.mk.injEq] at H
  obtain ⟨rfl, rfl, rfl, rfl⟩ := H
  have hnb22 := NB228_226.out
  have hnc22 := NB226_228.out
  have hnb23 := NB228_227.out
  have hnc23 := NB227_228.out
  obtain ⟨z24_0, z24_1, z24_2, y24_0, y24_1, y24_2⟩ := zB3 BK228
  go_wp2
  refine bodyPost_ret (results_ct rfl _ _ gb228 37 #[.int .i8 0, .int .i8 0, .slice none 0 0] (0, 0) _ rfl (by (with_reducible repeat (first | refine blk_drewN ?_ _ | refine blk_drew ?_ | refine blk_alloc ?_ _)); refine blk_put (cs := #[.int .i8 0, .int .i8 0, .slice none 0 0]) ?_ 2 _ rfl; (with_reducible repeat (first | refine blk_drewN ?_ _ | refine blk_drew ?_ | refine blk_alloc ?_ _)); refine blk_put (cs := #[.int .i8 0, .int .i8 0, .slice none 0 0]) ?_ 1 _ rfl; (with_reducible repeat (first | refine blk_drewN ?_ _ | refine blk_drew ?_ | refine blk_alloc ?_ _)); refine blk_put (cs := #[.int .i8 0, .int .i8 0, .slice none 0 0]) ?_ 0 _ rfl; (with_reducible repeat (first | refine blk_drewN ?_ _ | refine blk_drew ?_ | refine blk_alloc ?_ _)); exact BK228.out) Try.underlying37 rfl (by kernel_rfl)) rfl ?_
  exact ⟨_, by first | rfl | (simp [errW_none, errW_some] <;> rfl) | (simp [*, errW_none, errW_some] <;> rfl), by first | exact Kd.R_nil _ _ _ _ _ | exact Kd.N_nil _ _ _ _ _ | exact Kd.V_nil _ _ _ _ _ | exact Kd.Q_nil _ _ _ _ _ | exact Kd.S_nil _ _ _ _ _, by repeat (first | (with_reducible first | exact HB.out | apply below_alloc | apply pw_below_drewN | apply below_drew1 | refine below_set ?_ GE226.out | refine below_set ?_ GE227.out | refine below_set ?_ GE228.out) | exact HB.out)⟩
 replace c21 := Bool.eq_false_iff.mpr c21
 subst c21
 have H1 : ((impl_Board_has.f [(⟨a0_0, a0_1, l0_2⟩ : S37)] a1_0 a1_1).bind fun t231 => (if t231 = true then ((impl_Board_at.f kj2 [(⟨a0_0, a0_1, l0_2⟩ : S37)] a1_0 a1_1).bind fun t232 => (if t232 ≥ 0 then (some (0, 0, ([] : List (S91)), 4)) else (if (l0_2.length : Int) = 200 then (some (0, 0, ([] : List (S91)), 3)) else ((impl_Piece_113.f l0_2).bind fun t233 => ((some (([(⟨(⟨a1_0, a1_1⟩ : S74), a1_2, a1_3, a1_4⟩ : S91)] : List (S91)) : List (S91))).bind fun y236 => (if t233.length + y236.length < 28147497671065 then ((some (t233 ++ y236 : List (S91))).bind fun y239 => ((impl_Board_with.f [(⟨a0_0, a0_1, l0_2⟩ : S37)] y239).bind fun bt242 => (some (bt242.1, bt242.2, y239, 0)))) else (none))))))) else (some (0, 0, ([] : List (S91)), 2)))) = some (r1, r2, r3, r4) := by rw [if_neg (show ¬ (false = true) by decide)] at H; exact H
 clear H
 have H := H1
 clear H1
 replace H := Option.bind_eq_some_iff.mp H
 obtain ⟨t231, A250, H⟩ := H
 replace H : (if t231 = true then ((impl_Board_at.f kj2 [(⟨a0_0, a0_1, l0_2⟩ : S37)] a1_0 a1_1).bind fun t232 => (if t232 ≥ 0 then (some (0, 0, ([] : List (S91)), 4)) else (if (l0_2.length : Int) = 200 then (some (0, 0, ([] : List (S91)), 3)) else ((impl_Piece_113.f l0_2).bind fun t233 => ((some (([(⟨(⟨a1_0, a1_1⟩ : S74), a1_2, a1_3, a1_4⟩ : S91)] : List (S91)) : List (S91))).bind fun y236 => (if t233.length + y236.length < 28147497671065 then ((some (t233 ++ y236 : List (S91))).bind fun y239 => ((impl_Board_with.f [(⟨a0_0, a0_1, l0_2⟩ : S37)] y239).bind fun bt242 => (some (bt242.1, bt242.2, y239, 0)))) else (none))))))) else (some (0, 0, ([] : List (S91)), 2))) = some (r1, r2, r3, r4) := H
 have A25 := Aside0.mk A250
 clear A250
 by_cases c26 : t231 = true
 rotate_left
 ·replace c26 := Bool.eq_false_iff.mpr c26
  subst c26
  have H1 : (some (0, 0, ([] : List (S91)), 2)) = some (r1, r2, r3, r4) := by rw [if_neg (show ¬ (false = true) by decide)] at H; exact H
  clear H
  have H := H1
  clear H1
  simp only [Option.some.injEq, Prod.mk.injEq] at H
  obtain ⟨rfl, rfl, rfl, rfl⟩ := H
  have hnb70 := NB227_226.out
  have hnc70 := NB226_227.out
  have hnb71 := NB227_228.out
  have hnc71 := NB228_227.out
  obtain ⟨z72_0, z72_1, z72_2, z72_3, z72_4, y72_0, y72_1, y72_2, y72_3, y72_4⟩ := zB5 BK227
  go_wp2_with (first | ((with_reducible refine gate_callee (f := 109) rfl ?_); refine goesL_ (some 19) rfl rfl Try.func109 (by kernel_rfl) rfl #[.pointer (some ⟨gb226, 0, none⟩), .agg #[.int .i8 a1_0, .int .i8 a1_1]] rfl (by (try simp only [List.map_toArray, List.map_cons, List.map_nil]); first | done | rfl | (simp only [List.length_drop, List.length_take]; rfl)) ?_; (with_reducible refine (impl_Board_has.calls _ [(⟨a0_0, a0_1, l0_2⟩ : S37)] a1_0 a1_1 false _ ?side1 A25.out).mono ?_); (case side1 => refine ro_of_blk (T := 37) (cs := #[.int .i8 a0_0, .int .i8 a0_1, .slice A0_2 l0_2.length c0_2]) (zh BK226).out ?_; exact k37_mk _ (⟨a0_0, a0_1, l0_2⟩ : S37) (by exact HC0_2.out) (by exact zcc HB HR0_2.out)); rintro e w73 ⟨rfl, hb⟩; refine ⟨_, rfl, ?_⟩; have n_ : _ ∧ _ ∧ _ ∧ _ := ⟨zk BK226 hb, zk BK227 hb, zk BK228 hb, zbs hb⟩; clear BK226 BK227 BK228 HB; obtain ⟨BK226, BK227, BK228, HB⟩ := n_; (try clear hb); (try clear hb2); (try clear hk); (try clear hi); have hnb74 := NB228_226.out; have hnc74 := NB226_228.out; obtain ⟨z75_0, z75_1, z75_2, y75_0, y75_1, y75_2⟩ := zB3 BK228))
  refine bodyPost_ret (results_ct rfl _ _ gb228 37 #[.int .i8 0, .int .i8 0, .slice none 0 0] (0, 0) _ rfl (by (with_reducible repeat (first | refine blk_drewN ?_ _ | refine blk_drew ?_ | refine blk_alloc ?_ _)); refine blk_put (cs := #[.int .i8 0, .int .i8 0, .slice none 0 0]) ?_ 2 _ rfl; (with_reducible repeat (first | refine blk_drewN ?_ _ | refine blk_drew ?_ | refine blk_alloc ?_ _)); refine blk_put (cs := #[.int .i8 0, .int .i8 0, .slice none 0 0]) ?_ 1 _ rfl; (with_reducible repeat (first | refine blk_drewN ?_ _ | refine blk_drew ?_ | refine blk_alloc ?_ _)); refine blk_put (cs := #[.int .i8 0, .int .i8 0, .slice none 0 0]) ?_ 0 _ rfl; (with_reducible repeat (first | refine blk_drewN ?_ _ | refine blk_drew ?_ | refine blk_alloc ?_ _)); exact BK228.out) Try.underlying37 rfl (by kernel_rfl)) rfl ?_
  exact ⟨_, by first | rfl | (simp [errW_none, errW_some] <;> rfl) | (simp [*, errW_none, errW_some] <;> rfl), by first | exact Kd.R_nil _ _ _ _ _ | exact Kd.N_nil _ _ _ _ _ | exact Kd.V_nil _ _ _ _ _ | exact Kd.Q_nil _ _ _ _ _ | exact Kd.S_nil _ _ _ _ _, by repeat (first | (with_reducible first | exact HB.out | apply below_alloc | apply pw_below_drewN | apply below_drew1 | refine below_set ?_ GE226.out | refine below_set ?_ GE227.out | refine below_set ?_ GE228.out) | exact HB.out)⟩
 subst c26
 have H1 : ((impl_Board_at.f kj2 [(⟨a0_0, a0_1, l0_2⟩ : S37)] a1_0 a1_1).bind fun t232 => (if t232 ≥ 0 then (some (0, 0, ([] : List (S91)), 4)) else (if (l0_2.length : Int) = 200 then (some (0, 0, ([] : List (S91)), 3)) else ((impl_Piece_113.f l0_2).bind fun t233 => ((some (([(⟨(⟨a1_0, a1_1⟩ : S74), a1_2, a1_3, a1_4⟩ : S91)] : List (S91)) : List (S91))).bind fun y236 => (if t233.length + y236.length < 28147497671065 then ((some (t233 ++ y236 : List (S91))).bind fun y239 => ((impl_Board_with.f [(⟨a0_0, a0_1, l0_2⟩ : S37)] y239).bind fun bt242 => (some (bt242.1, bt242.2, y239, 0)))) else (none))))))) = some (r1, r2, r3, r4) := by rw [if_pos rfl] at H; exact H
 clear H
 have H := H1
 clear H1
 replace H := Option.bind_eq_some_iff.mp H
 obtain ⟨t232, A270, H⟩ := H
 replace H : (if t232 ≥ 0 then (some (0, 0, ([] : List (S91)), 4)) else (if (l0_2.length : Int) = 200 then (some (0, 0, ([] : List (S91)), 3)) else ((impl_Piece_113.f l0_2).bind fun t233 => ((some (([(⟨(⟨a1_0, a1_1⟩ : S74), a1_2, a1_3, a1_4⟩ : S91)] : List (S91)) : List (S91))).bind fun y236 => (if t233.length + y236.length < 28147497671065 then ((some (t233 ++ y236 : List (S91))).bind fun y239 => ((impl_Board_with.f [(⟨a0_0, a0_1, l0_2⟩ : S37)] y239).bind fun bt242 => (some (bt242.1, bt242.2, y239, 0)))) else (none)))))) = some (r1, r2, r3, r4) := H
 have A27 := Aside0.mk A270
 clear A270
 by_cases c28 : t232 ≥ 0
 ·rw [if_pos c28] at H
  have c28b0 : decide (0 ≤ t232) = true := decide_eq_true c28
  clear c28
  simp only [Option.some.injEq, Prod.mk.injEq] at H
  obtain ⟨rfl, rfl, rfl, rfl⟩ := H
  have hnb29 := NB227_226.out
  have hnc29 := NB226_227.out
  have hnb30 := NB227_228.out
  have hnc30 := NB228_227.out
  obtain ⟨z31_0, z31_1, z31_2, z31_3, z31_4, y31_0, y31_1, y31_2, y31_3, y31_4⟩ := zB5 BK227
  go_wp2_with (first | ((with_reducible refine gate_callee (f := 109) rfl ?_); refine goesL_ (some 19) rfl rfl Try.func109 (by kernel_rfl) rfl #[.pointer (some ⟨gb226, 0, none⟩), .agg #[.int .i8 a1_0, .int .i8 a1_1]] rfl (by (try simp only [List.map_toArray, List.map_cons, List.map_nil]); first | done | rfl | (simp only [List.length_drop, List.length_take]; rfl)) ?_; (with_reducible refine (impl_Board_has.calls _ [(⟨a0_0, a0_1, l0_2⟩ : S37)] a1_0 a1_1 true _ ?side1 A25.out).mono ?_); (case side1 => refine ro_of_blk (T := 37) (cs := #[.int .i8 a0_0, .int .i8 a0_1, .slice A0_2 l0_2.length c0_2]) (zh BK226).out ?_; exact k37_mk _ (⟨a0_0, a0_1, l0_2⟩ : S37) (by exact HC0_2.out) (by exact zcc HB HR0_2.out)); rintro e w32 ⟨rfl, hb⟩; refine ⟨_, rfl, ?_⟩; have n_ : _ ∧ _ ∧ _ ∧ _ := ⟨zk BK226 hb, zk BK227 hb, zk BK228 hb, zbs hb⟩; clear BK226 BK227 BK228 HB; obtain ⟨BK226, BK227, BK228, HB⟩ := n_; (try clear hb); (try clear hb2); (try clear hk); (try clear hi); obtain ⟨z33_0, z33_1, z33_2, z33_3, z33_4, y33_0, y33_1, y33_2, y33_3, y33_4⟩ := zB5 BK227) | ((with_reducible refine gate_callee (f := 119) rfl ?_); refine goesL_ (some 25) rfl rfl Try.func119 (by kernel_rfl) rfl #[.pointer (some ⟨gb226, 0, none⟩), .agg #[.int .i8 a1_0, .int .i8 a1_1]] rfl (by (try simp only [List.map_toArray, List.map_cons, List.map_nil]); first | done | rfl | (simp only [List.length_drop, List.length_take]; rfl)) ?_; (with_reducible refine (impl_Board_at.calls kj2 _ [(⟨a0_0, a0_1, l0_2⟩ : S37)] a1_0 a1_1 t232 _ ?side1 A27.out).mono ?_); (case side1 => refine ro_of_blk (T := 37) (cs := #[.int .i8 a0_0, .int .i8 a0_1, .slice A0_2 l0_2.length c0_2]) (zh BK226).out ?_; exact k37_mk _ (⟨a0_0, a0_1, l0_2⟩ : S37) (by exact HC0_2.out) (by exact zcc HB HR0_2.out)); rintro e w34 ⟨rfl, hb⟩; refine ⟨_, rfl, ?_⟩; have n_ : _ ∧ _ ∧ _ ∧ _ := ⟨zk BK226 hb, zk BK227 hb, zk BK228 hb, zbs hb⟩; clear BK226 BK227 BK228 HB; obtain ⟨BK226, BK227, BK228, HB⟩ := n_; (try clear hb); (try clear hb2); (try clear hk); (try clear hi); have hnb35 := NB228_226.out; have hnc35 := NB226_228.out; obtain ⟨z36_0, z36_1, z36_2, y36_0, y36_1, y36_2⟩ := zB3 BK228))
  refine bodyPost_ret (results_ct rfl _ _ gb228 37 #[.int .i8 0, .int .i8 0, .slice none 0 0] (0, 0) _ rfl (by (with_reducible repeat (first | refine blk_drewN ?_ _ | refine blk_drew ?_ | refine blk_alloc ?_ _)); refine blk_put (cs := #[.int .i8 0, .int .i8 0, .slice none 0 0]) ?_ 2 _ rfl; (with_reducible repeat (first | refine blk_drewN ?_ _ | refine blk_drew ?_ | refine blk_alloc ?_ _)); refine blk_put (cs := #[.int .i8 0, .int .i8 0, .slice none 0 0]) ?_ 1 _ rfl; (with_reducible repeat (first | refine blk_drewN ?_ _ | refine blk_drew ?_ | refine blk_alloc ?_ _)); refine blk_put (cs := #[.int .i8 0, .int .i8 0, .slice none 0 0]) ?_ 0 _ rfl; (with_reducible repeat (first | refine blk_drewN ?_ _ | refine blk_drew ?_ | refine blk_alloc ?_ _)); exact BK228.out) Try.underlying37 rfl (by kernel_rfl)) rfl ?_
  exact ⟨_, by first | rfl | (simp [errW_none, errW_some] <;> rfl) | (simp [*, errW_none, errW_some] <;> rfl), by first | exact Kd.R_nil _ _ _ _ _ | exact Kd.N_nil _ _ _ _ _ | exact Kd.V_nil _ _ _ _ _ | exact Kd.Q_nil _ _ _ _ _ | exact Kd.S_nil _ _ _ _ _, by repeat (first | (with_reducible first | exact HB.out | apply below_alloc | apply pw_below_drewN | apply below_drew1 | refine below_set ?_ GE226.out | refine below_set ?_ GE227.out | refine below_set ?_ GE228.out) | exact HB.out)⟩
 rw [if_neg c28] at H
 have c28b0 : decide (0 ≤ t232) = false := decide_eq_false c28
 clear c28
 by_cases c37 : (l0_2.length : Int) = 200
 ·rw [if_pos c37] at H
  have c37b0 : ((l0_2.length : Int) == 200) = true := beq_iff_eq.mpr c37
  have c37b1 : ((l0_2.length : Int) != 200) = false := bne_eq_false_iff_eq.mpr c37
  clear c37
  simp only [Option.some.injEq, Prod.mk.injEq] at H
  obtain ⟨rfl, rfl, rfl, rfl⟩ := H
  have hnb38 := NB227_226.out
  have hnc38 := NB226_227.out
  have hnb39 := NB227_228.out
  have hnc39 := NB228_227.out
  obtain ⟨z40_0, z40_1, z40_2, z40_3, z40_4, y40_0, y40_1, y40_2, y40_3, y40_4⟩ := zB5 BK227
  go_wp2_with (first | ((with_reducible refine gate_callee (f := 109) rfl ?_); refine goesL_ (some 19) rfl rfl Try.func109 (by kernel_rfl) rfl #[.pointer (some ⟨gb226, 0, none⟩), .agg #[.int .i8 a1_0, .int .i8 a1_1]] rfl (by (try simp only [List.map_toArray, List.map_cons, List.map_nil]); first | done | rfl | (simp only [List.length_drop, List.length_take]; rfl)) ?_; (with_reducible refine (impl_Board_has.calls _ [(⟨a0_0, a0_1, l0_2⟩ : S37)] a1_0 a1_1 true _ ?side1 A25.out).mono ?_); (case side1 => refine ro_of_blk (T := 37) (cs := #[.int .i8 a0_0, .int .i8 a0_1, .slice A0_2 l0_2.length c0_2]) (zh BK226).out ?_; exact k37_mk _ (⟨a0_0, a0_1, l0_2⟩ : S37) (by exact HC0_2.out) (by exact zcc HB HR0_2.out)); rintro e w41 ⟨rfl, hb⟩; refine ⟨_, rfl, ?_⟩; have n_ : _ ∧ _ ∧ _ ∧ _ := ⟨zk BK226 hb, zk BK227 hb, zk BK228 hb, zbs hb⟩; clear BK226 BK227 BK228 HB; obtain ⟨BK226, BK227, BK228, HB⟩ := n_; (try clear hb); (try clear hb2); (try clear hk); (try clear hi); obtain ⟨z42_0, z42_1, z42_2, z42_3, z42_4, y42_0, y42_1, y42_2, y42_3, y42_4⟩ := zB5 BK227) | ((with_reducible refine gate_callee (f := 119) rfl ?_); refine goesL_ (some 25) rfl rfl Try.func119 (by kernel_rfl) rfl #[.pointer (some ⟨gb226, 0, none⟩), .agg #[.int .i8 a1_0, .int .i8 a1_1]] rfl (by (try simp only [List.map_toArray, List.map_cons, List.map_nil]); first | done | rfl | (simp only [List.length_drop, List.length_take]; rfl)) ?_; (with_reducible refine (impl_Board_at.calls kj2 _ [(⟨a0_0, a0_1, l0_2⟩ : S37)] a1_0 a1_1 t232 _ ?side1 A27.out).mono ?_); (case side1 => refine ro_of_blk (T := 37) (cs := #[.int .i8 a0_0, .int .i8 a0_1, .slice A0_2 l0_2.length c0_2]) (zh BK226).out ?_; exact k37_mk _ (⟨a0_0, a0_1, l0_2⟩ : S37) (by exact HC0_2.out) (by exact zcc HB HR0_2.out)); rintro e w43 ⟨rfl, hb⟩; refine ⟨_, rfl, ?_⟩; have n_ : _ ∧ _ ∧ _ ∧ _ := ⟨zk BK226 hb, zk BK227 hb, zk BK228 hb, zbs hb⟩; clear BK226 BK227 BK228 HB; obtain ⟨BK226, BK227, BK228, HB⟩ := n_; (try clear hb); (try clear hb2); (try clear hk); (try clear hi); have hnb44 := NB226_228.out; have hnc44 := NB228_226.out; obtain ⟨z45_0, z45_1, z45_2, y45_0, y45_1, y45_2⟩ := zB3 BK226; obtain ⟨z46_0, z46_1, z46_2, y46_0, y46_1, y46_2⟩ := zB3 BK228))
  refine bodyPost_ret (results_ct rfl _ _ gb228 37 #[.int .i8 0, .int .i8 0, .slice none 0 0] (0, 0) _ rfl (by (with_reducible repeat (first | refine blk_drewN ?_ _ | refine blk_drew ?_ | refine blk_alloc ?_ _)); refine blk_put (cs := #[.int .i8 0, .int .i8 0, .slice none 0 0]) ?_ 2 _ rfl; (with_reducible repeat (first | refine blk_drewN ?_ _ | refine blk_drew ?_ | refine blk_alloc ?_ _)); refine blk_put (cs := #[.int .i8 0, .int .i8 0, .slice none 0 0]) ?_ 1 _ rfl; (with_reducible repeat (first | refine blk_drewN ?_ _ | refine blk_drew ?_ | refine blk_alloc ?_ _)); refine blk_put (cs := #[.int .i8 0, .int .i8 0, .slice none 0 0]) ?_ 0 _ rfl; (with_reducible repeat (first | refine blk_drewN ?_ _ | refine blk_drew ?_ | refine blk_alloc ?_ _)); exact BK228.out) Try.underlying37 rfl (by kernel_rfl)) rfl ?_
  exact ⟨_, by first | rfl | (simp [errW_none, errW_some] <;> rfl) | (simp [*, errW_none, errW_some] <;> rfl), by first | exact Kd.R_nil _ _ _ _ _ | exact Kd.N_nil _ _ _ _ _ | exact Kd.V_nil _ _ _ _ _ | exact Kd.Q_nil _ _ _ _ _ | exact Kd.S_nil _ _ _ _ _, by repeat (first | (with_reducible first | exact HB.out | apply below_alloc | apply pw_below_drewN | apply below_drew1 | refine below_set ?_ GE226.out | refine below_set ?_ GE227.out | refine below_set ?_ GE228.out) | exact HB.out)⟩
 rw [if_neg c37] at H
 have c37b0 : ((l0_2.length : Int) == 200) = false := beq_eq_false_iff_ne.mpr c37
 have c37b1 : ((l0_2.length : Int) != 200) = true := bne_iff_ne.mpr c37
 replace H := Option.bind_eq_some_iff.mp H
 obtain ⟨t233, A470, H⟩ := H
 replace H : ((some (([(⟨(⟨a1_0, a1_1⟩ : S74), a1_2, a1_3, a1_4⟩ : S91)] : List (S91)) : List (S91))).bind fun y236 => (if t233.length + y236.length < 28147497671065 then ((some (t233 ++ y236 : List (S91))).bind fun y239 => ((impl_Board_with.f [(⟨a0_0, a0_1, l0_2⟩ : S37)] y239).bind fun bt242 => (some (bt242.1, bt242.2, y239, 0)))) else (none))) = some (r1, r2, r3, r4) := H
 have A47 := Aside0.mk A470
 clear A470
 obtain ⟨y236, hy236⟩ : ∃ y_ : List (S91), y_ = (([(⟨(⟨a1_0, a1_1⟩ : S74), a1_2, a1_3, a1_4⟩ : S91)] : List (S91))) := ⟨_, rfl⟩
 replace H : (if t233.length + y236.length < 28147497671065 then ((some (t233 ++ y236 : List (S91))).bind fun y239 => ((impl_Board_with.f [(⟨a0_0, a0_1, l0_2⟩ : S37)] y239).bind fun bt242 => (some (bt242.1, bt242.2, y239, 0)))) else (none)) = some (r1, r2, r3, r4) := by first | (rw [hy236]; with_reducible exact H) | (have H2_ := (Option.bind_some _ _).symm.trans H; rw [hy236]; with_reducible exact H2_) | (have H2_ := (Option.bind_some _ _).symm.trans H; with_reducible exact H2_) | with_reducible exact H | (rw [hy236]; exact H) | exact H
 have Ny236 := Aside0.mk hy236
 clear hy236
 by_cases c48 : t233.length + y236.length < 28147497671065
 rotate_left
 ·rw [if_neg c48] at H
  exact absurd H (by simp)
 rw [if_pos c48] at H
 have LMc48 := Aside0.mk c48
 clear c48
 obtain ⟨y239, hy239⟩ : ∃ y_ : List (S91), y_ = (t233 ++ y236) := ⟨_, rfl⟩
 replace H : ((impl_Board_with.f [(⟨a0_0, a0_1, l0_2⟩ : S37)] y239).bind fun bt242 => (some (bt242.1, bt242.2, y239, 0))) = some (r1, r2, r3, r4) := by first | (rw [hy239]; with_reducible exact H) | (have H2_ := (Option.bind_some _ _).symm.trans H; rw [hy239]; with_reducible exact H2_) | (have H2_ := (Option.bind_some _ _).symm.trans H; with_reducible exact H2_) | with_reducible exact H | (rw [hy239]; exact H) | exact H
 have Ny239 := Aside0.mk hy239
 clear hy239
 replace H := Option.bind_eq_some_iff.mp H
 obtain ⟨⟨t242, t243⟩, A490, H⟩ := H
 replace H : (some (t242, t243, y239, 0)) = some (r1, r2, r3, r4) := H
 have A49 := Aside0.mk A490
 clear A490
 simp only [Option.some.injEq, Prod.mk.injEq] at H
 obtain ⟨rfl, rfl, rfl, rfl⟩ := H
 have hnb50 := NB227_226.out
 have hnc50 := NB226_227.out
 have hnb51 := NB227_228.out
 have hnc51 := NB228_227.out
 obtain ⟨z52_0, z52_1, z52_2, z52_3, z52_4, y52_0, y52_1, y52_2, y52_3, y52_4⟩ := zB5 BK227
 try go_wp2_with (first | ((with_reducible refine gate_callee (f := 109) rfl ?_); refine goesL_ (some 19) rfl rfl Try.func109 (by kernel_rfl) rfl #[.pointer (some ⟨gb226, 0, none⟩), .agg #[.int .i8 a1_0, .int .i8 a1_1]] rfl (by (try simp only [List.map_toArray, List.map_cons, List.map_nil]); first | done | rfl | (simp only [List.length_drop, List.length_take]; rfl)) ?_; (with_reducible refine (impl_Board_has.calls _ [(⟨a0_0, a0_1, l0_2⟩ : S37)] a1_0 a1_1 true _ ?side1 A25.out).mono ?_); (case side1 => refine ro_of_blk (T := 37) (cs := #[.int .i8 a0_0, .int .i8 a0_1, .slice A0_2 l0_2.length c0_2]) (zh BK226).out ?_; exact k37_mk _ (⟨a0_0, a0_1, l0_2⟩ : S37) (by exact HC0_2.out) (by exact zcc HB HR0_2.out)); rintro e w53 ⟨rfl, hb⟩; refine ⟨_, rfl, ?_⟩; have n_ : _ ∧ _ ∧ _ ∧ _ := ⟨zk BK226 hb, zk BK227 hb, zk BK228 hb, zbs hb⟩; clear BK226 BK227 BK228 HB; obtain ⟨BK226, BK227, BK228, HB⟩ := n_; (try clear hb); (try clear hb2); (try clear hk); (try clear hi); obtain ⟨z54_0, z54_1, z54_2, z54_3, z54_4, y54_0, y54_1, y54_2, y54_3, y54_4⟩ := zB5 BK227) | ((with_reducible refine gate_callee (f := 119) rfl ?_); refine goesL_ (some 25) rfl rfl Try.func119 (by kernel_rfl) rfl #[.pointer (some ⟨gb226, 0, none⟩), .agg #[.int .i8 a1_0, .int .i8 a1_1]] rfl (by (try simp only [List.map_toArray, List.map_cons, List.map_nil]); first | done | rfl | (simp only [List.length_drop, List.length_take]; rfl)) ?_; (with_reducible refine (impl_Board_at.calls kj2 _ [(⟨a0_0, a0_1, l0_2⟩ : S37)] a1_0 a1_1 t232 _ ?side1 A27.out).mono ?_); (case side1 => refine ro_of_blk (T := 37) (cs := #[.int .i8 a0_0, .int .i8 a0_1, .slice A0_2 l0_2.length c0_2]) (zh BK226).out ?_; exact k37_mk _ (⟨a0_0, a0_1, l0_2⟩ : S37) (by exact HC0_2.out) (by exact zcc HB HR0_2.out)); rintro e w55 ⟨rfl, hb⟩; refine ⟨_, rfl, ?_⟩; have n_ : _ ∧ _ ∧ _ ∧ _ := ⟨zk BK226 hb, zk BK227 hb, zk BK228 hb, zbs hb⟩; clear BK226 BK227 BK228 HB; obtain ⟨BK226, BK227, BK228, HB⟩ := n_; (try clear hb); (try clear hb2); (try clear hk); (try clear hi); have hnb56 := NB226_228.out; have hnc56 := NB228_226.out; obtain ⟨z57_0, z57_1, z57_2, y57_0, y57_1, y57_2⟩ := zB3 BK226))
 have n0_ := Aside0.mk (blk_drew BK226.out)
 have n1_ := Aside0.mk (blk_drew BK227.out)
 have n2_ := Aside0.mk (blk_drew BK228.out)
 have n3_ := Aside0.mk (below_drew1 HB.out)
 clear BK226
 clear BK227
 clear BK228
 clear HB
 have BK226 := n0_
 have BK227 := n1_
 have BK228 := n2_
 have HB := n3_
 clear n0_ n1_ n2_ n3_
 refine start_ (n := 9) (S := fun w' => w'.cell? ⟨gb226, 0, none⟩ = some (.int .i8 a0_0) ∧ w'.cell? ⟨gb226, 1, none⟩ = some (.int .i8 a0_1) ∧ w'.cell? ⟨gb226, 2, none⟩ = some (.slice A0_2 l0_2.length c0_2) ∧ w'.cell? ⟨gb227, 0, none⟩ = some (.int .i8 a1_0) ∧ w'.cell? ⟨gb227, 1, none⟩ = some (.int .i8 a1_1) ∧ w'.cell? ⟨gb227, 2, none⟩ = some (.int .i8 a1_2) ∧ w'.cell? ⟨gb227, 3, none⟩ = some (.int .i8 a1_3) ∧ w'.cell? ⟨gb227, 4, none⟩ = some (.int .i8 a1_4)) (ds := []) (zq 9 0) (by kernel_rfl) rfl rfl ⟨(blk_cell BK226.out 0).trans rfl, (blk_cell BK226.out 1).trans rfl, (blk_cell BK226.out 2).trans rfl, (blk_cell BK227.out 0).trans rfl, (blk_cell BK227.out 1).trans rfl, (blk_cell BK227.out 2).trans rfl, (blk_cell BK227.out 3).trans rfl, (blk_cell BK227.out 4).trans rfl⟩ (fun hHeld => ?_); refine with_tabW impl_PutPiece.tab9 impl_PutPiece.bits9 (fun HT_ HW_ => ?_)
 generalize w55.drew = w58 at BK226 BK227 BK228 HB hHeld ⊢
 refine zpu 0 (some 34) (zq 9 1) HT_ ?_
 refine ztk 1 (some 35) (zq 9 3) HT_ HW_ rfl hHeld (Or.inl ⟨by rfl, by (rintro w' ⟨s0, s1, s2, s3, s4, s5, s6, s7⟩; go_simp; with_reducible rfl)⟩) ?_
 refine ztk 3 (some 37) (zq 9 11) HT_ HW_ rfl hHeld (Or.inl ⟨by rfl, by (rintro w' ⟨s0, s1, s2, s3, s4, s5, s6, s7⟩; go_simp; with_reducible rfl)⟩) ?_
 refine join_ (σ := Value × Value) 4 (zq 9 31) (fun s_ => [(36, s_.1), (38, s_.2)]) (fun s_ w' => (w'.cell? ⟨gb226, 0, none⟩ = some (.int .i8 a0_0) ∧ w'.cell? ⟨gb226, 1, none⟩ = some (.int .i8 a0_1) ∧ w'.cell? ⟨gb226, 2, none⟩ = some (.slice A0_2 l0_2.length c0_2) ∧ w'.cell? ⟨gb227, 0, none⟩ = some (.int .i8 a1_0) ∧ w'.cell? ⟨gb227, 1, none⟩ = some (.int .i8 a1_1) ∧ w'.cell? ⟨gb227, 2, none⟩ = some (.int .i8 a1_2) ∧ w'.cell? ⟨gb227, 3, none⟩ = some (.int .i8 a1_3) ∧ w'.cell? ⟨gb227, 4, none⟩ = some (.int .i8 a1_4)) ∧ (Kd.R k91 91 w' w.heap.size (fun k_ => some k_ ≠ (s_.2 : Value).ownBlock ∧ k_ ≠ gb227) s_.1 t233) ∧ (Kd.R k91 91 w' w.heap.size (fun k_ => some k_ ≠ (s_.1 : Value).ownBlock ∧ k_ ≠ gb227) s_.2 y236) ∧ (w'.heap[gb226]? = some (.cells #[.int .i8 a0_0, .int .i8 a0_1, .slice A0_2 l0_2.length c0_2] 37 (0, 0))) ∧ (w'.heap[gb227]? = some (.cells #[.int .i8 a1_0, .int .i8 a1_1, .int .i8 a1_2, .int .i8 a1_3, .int .i8 a1_4] 91 (0, 0))) ∧ (w'.heap[gb228]? = some (.cells #[.int .i8 0, .int .i8 0, .slice none 0 0] 37 (0, 0))) ∧ (Below w.heap.size w w')) ?_ ?_
 rotate_left
 ·intro hCont
  refine two_ (i := 2) (j := 4) (Ni := some 36) (Nj := some 38) (zq 9 15) (zq 9 27) rfl rfl rfl rfl (two_of HT_.out (by kernel_rfl)) (by decide) (by decide) (fun K hK => ?_) (fun K hK => ?_)
  rotate_left
  ·skip
   refine Kd.R_lit_step k91 _ 91 ?hg (N := 38) ?hd (xs := ([(⟨(⟨a1_0, a1_1⟩ : S74), a1_2, a1_3, a1_4⟩ : S91)] : List (S91))) (inner := [.int .i8 a1_0, .int .i8 a1_1, .int .i8 a1_2, .int .i8 a1_3, .int .i8 a1_4]) (ok := fun _ => True) (okp := fun _ => True) ?hr ?hp (fun _ hk => hk) trivial (Below.refl _ _) (Nat.le_refl _) (by simp) ?_; (case hd => rfl); (case hg => rfl); (case hr => first | (go_simp; done) | (go_simp; rfl)); (case hp => exact (Reps.c5 (show Kd.M k91 _ _ _ (⟨(⟨a1_0, a1_1⟩ : S74), a1_2, a1_3, a1_4⟩ : S91) [.int .i8 a1_0, .int .i8 a1_1, .int .i8 a1_2, .int .i8 a1_3, .int .i8 a1_4] from (k91_mkM _ _ _ (⟨(⟨a1_0, a1_1⟩ : S74), a1_2, a1_3, a1_4⟩ : S91) )) (Reps.none _ _)))
   intro v237 w59 ho60 hb hg_ hnew_
   clear hg_ hnew_
   (first | rw [← Ny236.out] at ho60 | (simp only [Int.reduceToNat] at ho60; rw [← Ny236.out] at ho60))
   have n0_ := Aside0.mk (Kd.R_lower (Kd.R_newB ho60 (g := gb227) (o := .cells #[.int .i8 a1_0, .int .i8 a1_1, .int .i8 a1_2, .int .i8 a1_3, .int .i8 a1_4] 91 (0, 0)) (zh BK227).out) (zz HB))
   have n1_ := zk BK226 hb
   have n2_ := zk BK227 hb
   have n3_ := zk BK228 hb
   have n4_ := zbs hb
   clear BK226
   clear BK227
   clear BK228
   clear HB
   have HO238 := n0_
   have BK226 := n1_
   have BK227 := n2_
   have BK228 := n3_
   have HB := n4_
   clear n0_ n1_ n2_ n3_ n4_
   clear hb ho60
   refine hK.out _ _ ⟨(blk_cell BK226.out 0).trans rfl, (blk_cell BK226.out 1).trans rfl, (blk_cell BK226.out 2).trans rfl, (blk_cell BK227.out 0).trans rfl, (blk_cell BK227.out 1).trans rfl, (blk_cell BK227.out 2).trans rfl, (blk_cell BK227.out 3).trans rfl, (blk_cell BK227.out 4).trans rfl⟩ (fun hHeld => ?_)
   clear hK K
   refine norm_ (a' := ?_) ?_ ?_
   rotate_left
   ·show Act.put _ (some 38) _ = _
    simp only [Act.put, List.setIfInBounds_toArray, List.set_cons_zero, List.set_cons_succ, i64_w, i32_w]
    rfl
   refine one_ (i := 2) (N := some 36) (zq 9 31) rfl rfl (one_of HT_.out (by kernel_rfl)) (by decide) (fun K hK => ?_)
   refine goes_ Try.func113 (by kernel_rfl) rfl #[.slice A0_2 l0_2.length c0_2] (by rfl) rfl rfl (by (try simp only [List.map_toArray, List.map_cons, List.map_nil]); first | done | rfl | (simp only [List.length_drop, List.length_take]; rfl)) ?_
   with_reducible refine (impl_Piece_113.calls _ _ l0_2 t233 _ ?side1 ?side2 A47.out).mono ?_
   (case side1 => exact zcc HB HR0_2.out)
   (case side2 => exact HC0_2.out)
   rintro e w61 ⟨v234, rfl, ho0, hb⟩
   refine ⟨_, rfl, ?_⟩
   have n0_ := Aside0.mk (Kd.R_elder' (ze HO238).out (Kd.R_base ho0) hb)
   have n1_ := Aside0.mk (Kd.R_lower (Kd.R_newB (Kd.R_new' ho0 (Kd.R_lt (ze HO238).out)) (g := gb227) (o := .cells #[.int .i8 a1_0, .int .i8 a1_1, .int .i8 a1_2, .int .i8 a1_3, .int .i8 a1_4] 91 (0, 0)) (zh BK227).out) (zz HB))
   have n2_ := zk BK226 hb
   have n3_ := zk BK227 hb
   have n4_ := zk BK228 hb
   have n5_ := zbs hb
   clear HO238
   clear BK226
   clear BK227
   clear BK228
   clear HB
   have HO238 := n0_
   have HO235 := n1_
   have BK226 := n2_
   have BK227 := n3_
   have BK228 := n4_
   have HB := n5_
   clear n0_ n1_ n2_ n3_ n4_ n5_
   (try clear hb)
   (try clear hb2)
   (try clear hk)
   (try clear hi)
   (try clear ho0)
   refine hK.out _ _ ⟨(blk_cell BK226.out 0).trans rfl, (blk_cell BK226.out 1).trans rfl, (blk_cell BK226.out 2).trans rfl, (blk_cell BK227.out 0).trans rfl, (blk_cell BK227.out 1).trans rfl, (blk_cell BK227.out 2).trans rfl, (blk_cell BK227.out 3).trans rfl, (blk_cell BK227.out 4).trans rfl⟩ (fun hHeld => ?_)
   clear hK K
   refine norm_ (a' := ?_) ?_ ?_
   rotate_left
   ·show Act.put _ (some 36) _ = _
    simp only [Act.put, List.setIfInBounds_toArray, List.set_cons_zero, List.set_cons_succ, i64_w, i32_w]
    rfl
   exact norm_ (by simp only [putAll, Act.put, List.setIfInBounds_toArray, List.set_cons_zero, List.set_cons_succ]) (hCont (v234, v237) _ ⟨hHeld, (by (with_reducible repeat (first | apply Kd.R_alloc | apply Kd.R_drewN | apply Kd.R_drew)); exact Kd.R_mono HO235.out (fun _ hk => ⟨hk.1.2, hk.2⟩)), (by (with_reducible repeat (first | apply Kd.R_alloc | apply Kd.R_drewN | apply Kd.R_drew)); exact Kd.R_mono HO238.out (fun _ hk => ⟨hk.2, hk.1.2⟩)), (zh BK226).out, (zh BK227).out, (zh BK228).out, (by repeat (first | (with_reducible first | exact HB.out | apply below_alloc | apply pw_below_drewN | apply below_drew1 | refine below_set ?_ GE226.out | refine below_set ?_ GE227.out | refine below_set ?_ GE228.out) | exact HB.out))⟩)
  skip
  refine goes_ Try.func113 (by kernel_rfl) rfl #[.slice A0_2 l0_2.length c0_2] (by rfl) rfl rfl (by (try simp only [List.map_toArray, List.map_cons, List.map_nil]); first | done | rfl | (simp only [List.length_drop, List.length_take]; rfl)) ?_
  with_reducible refine (impl_Piece_113.calls _ _ l0_2 t233 _ ?side1 ?side2 A47.out).mono ?_
  (case side1 => exact zcc HB HR0_2.out)
  (case side2 => exact HC0_2.out)
  rintro e w59 ⟨v234, rfl, ho0, hb⟩
  refine ⟨_, rfl, ?_⟩
  have n0_ := Aside0.mk (Kd.R_lower (Kd.R_newB ho0 (g := gb227) (o := .cells #[.int .i8 a1_0, .int .i8 a1_1, .int .i8 a1_2, .int .i8 a1_3, .int .i8 a1_4] 91 (0, 0)) (zh BK227).out) (zz HB))
  have n1_ := zk BK226 hb
  have n2_ := zk BK227 hb
  have n3_ := zk BK228 hb
  have n4_ := zbs hb
  clear BK226
  clear BK227
  clear BK228
  clear HB
  have HO235 := n0_
  have BK226 := n1_
  have BK227 := n2_
  have BK228 := n3_
  have HB := n4_
  clear n0_ n1_ n2_ n3_ n4_
  (try clear hb)
  (try clear hb2)
  (try clear hk)
  (try clear hi)
  (try clear ho0)
  refine hK.out _ _ ⟨(blk_cell BK226.out 0).trans rfl, (blk_cell BK226.out 1).trans rfl, (blk_cell BK226.out 2).trans rfl, (blk_cell BK227.out 0).trans rfl, (blk_cell BK227.out 1).trans rfl, (blk_cell BK227.out 2).trans rfl, (blk_cell BK227.out 3).trans rfl, (blk_cell BK227.out 4).trans rfl⟩ (fun hHeld => ?_)
  clear hK K
  refine norm_ (a' := ?_) ?_ ?_
  rotate_left
  ·show Act.put _ (some 36) _ = _
   simp only [Act.put, List.setIfInBounds_toArray, List.set_cons_zero, List.set_cons_succ, i64_w, i32_w]
   rfl
  refine one_ (i := 4) (N := some 38) (zq 9 31) rfl rfl (one_of HT_.out (by kernel_rfl)) (by decide) (fun K hK => ?_)
  refine Kd.R_lit_step k91 _ 91 ?hg (N := 38) ?hd (xs := ([(⟨(⟨a1_0, a1_1⟩ : S74), a1_2, a1_3, a1_4⟩ : S91)] : List (S91))) (inner := [.int .i8 a1_0, .int .i8 a1_1, .int .i8 a1_2, .int .i8 a1_3, .int .i8 a1_4]) (ok := fun _ => True) (okp := fun _ => True) ?hr ?hp (fun _ hk => hk) trivial (Below.refl _ _) (Nat.le_refl _) (by simp) ?_; (case hd => rfl); (case hg => rfl); (case hr => first | (go_simp; done) | (go_simp; rfl)); (case hp => exact (Reps.c5 (show Kd.M k91 _ _ _ (⟨(⟨a1_0, a1_1⟩ : S74), a1_2, a1_3, a1_4⟩ : S91) [.int .i8 a1_0, .int .i8 a1_1, .int .i8 a1_2, .int .i8 a1_3, .int .i8 a1_4] from (k91_mkM _ _ _ (⟨(⟨a1_0, a1_1⟩ : S74), a1_2, a1_3, a1_4⟩ : S91) )) (Reps.none _ _)))
  intro v237 w60 ho61 hb hg_ hnew_
  clear hg_ hnew_
  (first | rw [← Ny236.out] at ho61 | (simp only [Int.reduceToNat] at ho61; rw [← Ny236.out] at ho61))
  have n0_ := Aside0.mk (Kd.R_elder' (ze HO235).out (Kd.R_base ho61) hb)
  have n1_ := Aside0.mk (Kd.R_lower (Kd.R_newB (Kd.R_new' ho61 (Kd.R_lt (ze HO235).out)) (g := gb227) (o := .cells #[.int .i8 a1_0, .int .i8 a1_1, .int .i8 a1_2, .int .i8 a1_3, .int .i8 a1_4] 91 (0, 0)) (zh BK227).out) (zz HB))
  have n2_ := zk BK226 hb
  have n3_ := zk BK227 hb
  have n4_ := zk BK228 hb
  have n5_ := zbs hb
  clear HO235
  clear BK226
  clear BK227
  clear BK228
  clear HB
  have HO235 := n0_
  have HO238 := n1_
  have BK226 := n2_
  have BK227 := n3_
  have BK228 := n4_
  have HB := n5_
  clear n0_ n1_ n2_ n3_ n4_ n5_
  clear hb ho61
  refine hK.out _ _ ⟨(blk_cell BK226.out 0).trans rfl, (blk_cell BK226.out 1).trans rfl, (blk_cell BK226.out 2).trans rfl, (blk_cell BK227.out 0).trans rfl, (blk_cell BK227.out 1).trans rfl, (blk_cell BK227.out 2).trans rfl, (blk_cell BK227.out 3).trans rfl, (blk_cell BK227.out 4).trans rfl⟩ (fun hHeld => ?_)
  clear hK K
  refine norm_ (a' := ?_) ?_ ?_
  rotate_left
  ·show Act.put _ (some 38) _ = _
   simp only [Act.put, List.setIfInBounds_toArray, List.set_cons_zero, List.set_cons_succ, i64_w, i32_w]
   rfl
  exact norm_ (by simp only [putAll, Act.put, List.setIfInBounds_toArray, List.set_cons_zero, List.set_cons_succ]) (hCont (v234, v237) _ ⟨hHeld, (by (with_reducible repeat (first | apply Kd.R_alloc | apply Kd.R_drewN | apply Kd.R_drew)); exact Kd.R_mono HO235.out (fun _ hk => ⟨hk.2, hk.1.2⟩)), (by (with_reducible repeat (first | apply Kd.R_alloc | apply Kd.R_drewN | apply Kd.R_drew)); exact Kd.R_mono HO238.out (fun _ hk => ⟨hk.1.2, hk.2⟩)), (zh BK226).out, (zh BK227).out, (zh BK228).out, (by repeat (first | (with_reducible first | exact HB.out | apply below_alloc | apply pw_below_drewN | apply below_drew1 | refine below_set ?_ GE226.out | refine below_set ?_ GE227.out | refine below_set ?_ GE228.out) | exact HB.out))⟩)
 rintro ⟨v234, v237⟩ w62 ⟨hS_, h0_, h1_, h2_, h3_, h4_, h5_⟩
 have n0_ : Aside0 (Kd.R k91 91 w62 w.heap.size (fun k_ => some k_ ≠ (v237 : Value).ownBlock ∧ k_ ≠ gb227) v234 t233) := ⟨h0_⟩
 have n1_ : Aside0 (Kd.R k91 91 w62 w.heap.size (fun k_ => some k_ ≠ (v234 : Value).ownBlock ∧ k_ ≠ gb227) v237 y236) := ⟨h1_⟩
 have n2_ : Aside0 (w62.heap[gb226]? = some (.cells #[.int .i8 a0_0, .int .i8 a0_1, .slice A0_2 l0_2.length c0_2] 37 (0, 0))) := ⟨h2_⟩
 have n3_ : Aside0 (w62.heap[gb227]? = some (.cells #[.int .i8 a1_0, .int .i8 a1_1, .int .i8 a1_2, .int .i8 a1_3, .int .i8 a1_4] 91 (0, 0))) := ⟨h3_⟩
 have n4_ : Aside0 (w62.heap[gb228]? = some (.cells #[.int .i8 0, .int .i8 0, .slice none 0 0] 37 (0, 0))) := ⟨h4_⟩
 have n5_ : Aside0 (Below w.heap.size w w62) := ⟨h5_⟩
 clear BK226
 clear BK227
 clear BK228
 clear HB
 clear h0_ h1_ h2_ h3_ h4_ h5_
 have HO235 := n0_
 have HO238 := n1_
 have BK226 := n2_
 have BK227 := n3_
 have BK228 := n4_
 have HB := n5_
 clear n0_ n1_ n2_ n3_ n4_ n5_
 have hHeld : w62.cell? ⟨gb226, 0, none⟩ = some (.int .i8 a0_0) ∧ w62.cell? ⟨gb226, 1, none⟩ = some (.int .i8 a0_1) ∧ w62.cell? ⟨gb226, 2, none⟩ = some (.slice A0_2 l0_2.length c0_2) ∧ w62.cell? ⟨gb227, 0, none⟩ = some (.int .i8 a1_0) ∧ w62.cell? ⟨gb227, 1, none⟩ = some (.int .i8 a1_1) ∧ w62.cell? ⟨gb227, 2, none⟩ = some (.int .i8 a1_2) ∧ w62.cell? ⟨gb227, 3, none⟩ = some (.int .i8 a1_3) ∧ w62.cell? ⟨gb227, 4, none⟩ = some (.int .i8 a1_4) := hS_
 obtain ⟨Ao64, co64, eo64⟩ := Kd.R_slice HO238.out
 (first | subst eo64 | (injection eo64 with f1_ f2_ f3_; have f4_ := f1_.symm; have f5_ := f3_.symm; clear f1_ f2_ f3_; subst f4_; subst f5_))
 refine norm_ (a' := ?_) ?_ ?_
 rotate_left
 ·simp only [putAll, Act.put, List.setIfInBounds_toArray, List.set_cons_zero, List.set_cons_succ]
  rfl
 refine one_ (i := 5) (N := some 39) (zq 9 63) rfl rfl (one_of HT_.out (by kernel_rfl)) (by decide) (fun K hK => ?_)
 refine Kd.R_append_rows_step k91 (w0 := w) w.heap.size (by rfl) (.tmp 36) (.tmp 38) 35 91 (.agg #[(.int .i8 0), (.int .i8 0), (.int .i8 0), (.int .i8 0), (.int .i8 0)]) 5 rfl Try.underlying35 info91 rfl (by decide) (by omega) v234 t233 y236 _ _ _ (fun k_ => some k_ ≠ (.slice Ao64 y236.length co64 : Value).ownBlock ∧ k_ ≠ gb227) (fun _ => False) rfl rfl ?aO ?aR (fun _ _ h => h) (fun _ h => h.elim) ?aF ?aB ?aS ?aL ?_
 (case aR => exact zrc HO238)
 (case aB => exact (by repeat (first | (with_reducible first | exact HB.out | apply below_alloc | apply pw_below_drewN | apply below_drew1 | refine below_set ?_ GE226.out | refine below_set ?_ GE227.out | refine below_set ?_ GE228.out) | exact HB.out)))
 (case aF => exact (fun k_ hk => ⟨Kd.fresh' (Kd.R_lt (ze HO238).out) k_ hk, Kd.freshB (g := gb227) (o := .cells #[.int .i8 a1_0, .int .i8 a1_1, .int .i8 a1_2, .int .i8 a1_3, .int .i8 a1_4] 91 (0, 0)) (zh BK227).out k_ hk⟩))
 (case aO => exact (ze HO235).out)
 (case aS => exact (zz HB))
 (case aL => have := LMc48.out; omega)
 intro v240 w63 ho hb hg hat
 rw [← Ny239.out] at ho
 have n0_ := Aside0.mk (blk_grown (g := gb226) (o := .cells #[.int .i8 a0_0, .int .i8 a0_1, .slice A0_2 l0_2.length c0_2] 37 (0, 0)) (zh BK226).out hg (Kd.R_ne HO235.out BK226.out (by decide)))
 have n1_ := Aside0.mk (blk_grown (g := gb227) (o := .cells #[.int .i8 a1_0, .int .i8 a1_1, .int .i8 a1_2, .int .i8 a1_3, .int .i8 a1_4] 91 (0, 0)) (zh BK227).out hg (Kd.R_away HO235.out (fun _ hk => hk.2)))
 have n2_ := Aside0.mk (blk_grown (g := gb228) (o := .cells #[.int .i8 0, .int .i8 0, .slice none 0 0] 37 (0, 0)) (zh BK228).out hg (Kd.R_ne HO235.out BK228.out (by decide)))
 have n3_ := Aside0.mk (Kd.R_after (ok := (fun k_ => k_ ≠ gb227)) (by (with_reducible repeat (first | apply Kd.R_alloc | apply Kd.R_drewN | apply Kd.R_drew)); exact Kd.R_mono HO238.out (fun _ hk => ⟨hk.2, hk.1⟩)) hg hat)
 have n4_ := Aside0.mk (hb)
 have n5_ := Aside0.mk (ho)
 clear BK226
 clear BK227
 clear BK228
 clear HO238
 clear HB
 clear HO235
 have BK226 := n0_
 have BK227 := n1_
 have BK228 := n2_
 have HO238 := n3_
 have HB := n4_
 have HO241 := n5_
 clear n0_ n1_ n2_ n3_ n4_ n5_
 clear ho hb hg hat
 obtain ⟨Ao65, co65, eo65⟩ := Kd.R_slice HO241.out
 (first | subst eo65 | (injection eo65 with f1_ f2_ f3_; have f4_ := f1_.symm; have f5_ := f3_.symm; clear f1_ f2_ f3_; subst f4_; subst f5_))
 refine hK.out _ _ ⟨(blk_cell BK226.out 0).trans rfl, (blk_cell BK226.out 1).trans rfl, (blk_cell BK226.out 2).trans rfl, (blk_cell BK227.out 0).trans rfl, (blk_cell BK227.out 1).trans rfl, (blk_cell BK227.out 2).trans rfl, (blk_cell BK227.out 3).trans rfl, (blk_cell BK227.out 4).trans rfl⟩ (fun hHeld => ?_)
 clear hK K
 refine norm_ (a' := ?_) ?_ ?_
 rotate_left
 ·show Act.put _ (some 39) _ = _
  simp only [Act.put, List.setIfInBounds_toArray, List.set_cons_zero, List.set_cons_succ, i64_w, i32_w]
  rfl
 refine one_ (i := 6) (N := some 40) (zq 9 127) rfl rfl (one_of HT_.out (by kernel_rfl)) (by decide) (fun K hK => ?_)
 refine goes_ Try.func112 (by kernel_rfl) rfl #[.pointer (some ⟨gb226, 0, none⟩), .slice Ao65 y239.length co65] (by rfl) rfl rfl (by (try simp only [List.map_toArray, List.map_cons, List.map_nil]); first | done | rfl | (simp only [List.length_drop, List.length_take]; rfl)) ?_
 with_reducible refine (impl_Board_with.calls _ [(⟨a0_0, a0_1, l0_2⟩ : S37)] _ _ y239 t242 t243 _ ?side1 ?side2 ?side3 A49.out).mono ?_
 (case side1 => refine ro_of_blk (T := 37) (cs := #[.int .i8 a0_0, .int .i8 a0_1, .slice A0_2 l0_2.length c0_2]) (zh BK226).out ?_; exact k37_mk _ (⟨a0_0, a0_1, l0_2⟩ : S37) (by exact HC0_2.out) (by exact zcc HB HR0_2.out))
 (case side2 => exact zrc HO241)
 (case side3 => exact (Kd.R_reads' HO241.out).2.1)
 rintro e w66 ⟨rfl, hb⟩
 refine ⟨_, rfl, ?_⟩
 have n0_ := zr HO238 hb
 have n1_ := zr HO241 hb
 have n2_ := zk BK226 hb
 have n3_ := zk BK227 hb
 have n4_ := zk BK228 hb
 have n5_ := zbs hb
 clear HO238
 clear HO241
 clear BK226
 clear BK227
 clear BK228
 clear HB
 have HO238 := n0_
 have HO241 := n1_
 have BK226 := n2_
 have BK227 := n3_
 have BK228 := n4_
 have HB := n5_
 clear n0_ n1_ n2_ n3_ n4_ n5_
 (try clear hb)
 (try clear hb2)
 (try clear hk)
 (try clear hi)
 refine hK.out _ _ ⟨(blk_cell BK226.out 0).trans rfl, (blk_cell BK226.out 1).trans rfl, (blk_cell BK226.out 2).trans rfl, (blk_cell BK227.out 0).trans rfl, (blk_cell BK227.out 1).trans rfl, (blk_cell BK227.out 2).trans rfl, (blk_cell BK227.out 3).trans rfl, (blk_cell BK227.out 4).trans rfl⟩ (fun hHeld => ?_)
 clear hK K
 refine norm_ (a' := ?_) ?_ ?_
 rotate_left
 ·show Act.put _ (some 40) _ = _
  simp only [Act.put, List.setIfInBounds_toArray, List.set_cons_zero, List.set_cons_succ, i64_w, i32_w]
  rfl
 refine one_ (i := 7) (N := none) (zq 9 255) rfl rfl (one_of HT_.out (by kernel_rfl)) (by decide) (fun K hK => ?_)
 have hs67 : w66.cell? ⟨gb228, 0, none⟩ = some (.int .i8 0) := (blk_cell BK228.out 0).trans rfl
 have hfs67 := blk_frozen BK228.out 0
 have hns67_0 := NB226_228.out
 have hns67_1 := NB227_228.out
 have hms67_0 := NB228_226.out
 have hms67_1 := NB228_227.out
 have hs68 : w66.cell? ⟨gb228, 1, none⟩ = some (.int .i8 0) := (blk_cell BK228.out 1).trans rfl
 have hfs68 := blk_frozen BK228.out 1
 have hns68_0 := NB226_228.out
 have hns68_1 := NB227_228.out
 have hms68_0 := NB228_226.out
 have hms68_1 := NB228_227.out
 have hs69 : w66.cell? ⟨gb228, 2, none⟩ = some (.slice none 0 0) := (blk_cell BK228.out 2).trans rfl
 have hfs69 := blk_frozen BK228.out 2
 have hns69_0 := NB226_228.out
 have hns69_1 := NB227_228.out
 have hms69_0 := NB228_226.out
 have hms69_1 := NB228_227.out
 refine skip_ (w1 := ?_) (by rfl) rfl ?_ ?_
 rotate_left
 ·go_simp
  rfl
 refine hK.out _ _ ⟨((cell_far (p := ⟨gb228, _, none⟩) NB226_228.out _).trans (((cell_far (p := ⟨gb228, _, none⟩) NB226_228.out _).trans (((cell_far (p := ⟨gb228, _, none⟩) NB226_228.out _).trans (hHeld.1)))))), ((cell_far (p := ⟨gb228, _, none⟩) NB226_228.out _).trans (((cell_far (p := ⟨gb228, _, none⟩) NB226_228.out _).trans (((cell_far (p := ⟨gb228, _, none⟩) NB226_228.out _).trans (hHeld.2.1)))))), ((cell_far (p := ⟨gb228, _, none⟩) NB226_228.out _).trans (((cell_far (p := ⟨gb228, _, none⟩) NB226_228.out _).trans (((cell_far (p := ⟨gb228, _, none⟩) NB226_228.out _).trans (hHeld.2.2.1)))))), ((cell_far (p := ⟨gb228, _, none⟩) NB227_228.out _).trans (((cell_far (p := ⟨gb228, _, none⟩) NB227_228.out _).trans (((cell_far (p := ⟨gb228, _, none⟩) NB227_228.out _).trans (hHeld.2.2.2.1)))))), ((cell_far (p := ⟨gb228, _, none⟩) NB227_228.out _).trans (((cell_far (p := ⟨gb228, _, none⟩) NB227_228.out _).trans (((cell_far (p := ⟨gb228, _, none⟩) NB227_228.out _).trans (hHeld.2.2.2.2.1)))))), ((cell_far (p := ⟨gb228, _, none⟩) NB227_228.out _).trans (((cell_far (p := ⟨gb228, _, none⟩) NB227_228.out _).trans (((cell_far (p := ⟨gb228, _, none⟩) NB227_228.out _).trans (hHeld.2.2.2.2.2.1)))))), ((cell_far (p := ⟨gb228, _, none⟩) NB227_228.out _).trans (((cell_far (p := ⟨gb228, _, none⟩) NB227_228.out _).trans (((cell_far (p := ⟨gb228, _, none⟩) NB227_228.out _).trans (hHeld.2.2.2.2.2.2.1)))))), ((cell_far (p := ⟨gb228, _, none⟩) NB227_228.out _).trans (((cell_far (p := ⟨gb228, _, none⟩) NB227_228.out _).trans (((cell_far (p := ⟨gb228, _, none⟩) NB227_228.out _).trans (hHeld.2.2.2.2.2.2.2))))))⟩ (fun hHeld => ?_)
 clear hK K
 refine zpu 8 (some 5) (zq 9 511) HT_ ?_
 refine done_ (done_of HT_.out (by kernel_rfl)) ?_
 try go_wp2
 refine bodyPost_ret (results_ct rfl _ _ gb228 37 #[.int .i8 t242, .int .i8 t243, .slice Ao65 y239.length co65] (0, 0) _ rfl (by (with_reducible repeat (first | refine blk_drewN ?_ _ | refine blk_drew ?_ | refine blk_alloc ?_ _)); refine blk_put (cs := #[.int .i8 t242, .int .i8 t243, .slice none 0 0]) ?_ 2 _ rfl; (with_reducible repeat (first | refine blk_drewN ?_ _ | refine blk_drew ?_ | refine blk_alloc ?_ _)); refine blk_put (cs := #[.int .i8 t242, .int .i8 0, .slice none 0 0]) ?_ 1 _ rfl; (with_reducible repeat (first | refine blk_drewN ?_ _ | refine blk_drew ?_ | refine blk_alloc ?_ _)); refine blk_put (cs := #[.int .i8 0, .int .i8 0, .slice none 0 0]) ?_ 0 _ rfl; (with_reducible repeat (first | refine blk_drewN ?_ _ | refine blk_drew ?_ | refine blk_alloc ?_ _)); exact BK228.out) Try.underlying37 rfl (by kernel_rfl)) rfl ?_
 exact ⟨_, by first | rfl | (simp [errW_none, errW_some] <;> rfl) | (simp [*, errW_none, errW_some] <;> rfl), by (with_reducible repeat (first | apply Kd.R_alloc | apply Kd.R_drewN | apply Kd.R_drew)); exact Kd.R_mono (Kd.R_far (p := ⟨gb228, 2, none⟩) (Kd.R_far (p := ⟨gb228, 1, none⟩) (Kd.R_far (p := ⟨gb228, 0, none⟩) (Kd.R_types HO241.out BK228.out (by decide)) (fun _ hk => hk.2) (.int .i8 t242)) (fun _ hk => hk.2) (.int .i8 t243)) (fun _ hk => hk.2) (.slice Ao65 y239.length co65)) (fun _ hk => trivial), by repeat (first | (with_reducible first | exact HB.out | apply below_alloc | apply pw_below_drewN | apply below_drew1 | refine below_set ?_ GE226.out | refine below_set ?_ GE227.out | refine below_set ?_ GE228.out) | exact HB.out)⟩
end Go.Proofs.Ytffnfpnajkgnaaa.PFnExactPutPiece
