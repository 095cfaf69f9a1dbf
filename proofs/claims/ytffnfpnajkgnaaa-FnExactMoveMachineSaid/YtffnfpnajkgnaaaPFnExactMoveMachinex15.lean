-- WRITTEN by xprint.py, a program of this session's. Not trusted: Lean checks it.
-- packed by pack.py
import Derived.Test.YtffnfpnajkgnaaaPFnExactMoveMachinex0
import Derived.Test.YtffnfpnajkgnaaaPFnExactMoveMachinex1
import Derived.Test.YtffnfpnajkgnaaaPFnExactMoveMachinex2
import Derived.Test.YtffnfpnajkgnaaaPFnExactMoveMachinex14
import Derived.Test.YtffnfpnajkgnaaaTFnExactMoveMachinea
namespace Go.Proofs.Ytffnfpnajkgnaaa.PFnExactMoveMachine
open Go.RowKit Go.Proofs.YtffnfpnajkgnaaaW.PrintWords Go.Proofs.YtffnfpnajkgnaaaW.PrintLast Go.Proofs.YtffnfpnajkgnaaaW.PrintMore Go.Proofs.YtffnfpnajkgnaaaX
attribute [local go_sem] max2_int min2_int max_two min_two max_three min_three max_four min_four   -- for this text's walks alone
set_option maxHeartbeats 8000000
set_option maxRecDepth 100000
set_option linter.unusedVariables false
set_option linter.unusedSimpArgs false

attribute [local go_sem high] eqA74 eqA116
def impl_MoveBoard.l0 : Nat → Int → Int → Int → Int → Int → Int → List (S91) → Int → Int → List (S91) → Option (Int × Int × (List (S91)) × Int)
  | 0, _, _, _, _, _, _, _, _, _, _ => none
  | k + 1, x1, x2, x32, x33, x357000, x357001, x357002, x370000, x370001, x370002 => if x33 < x32 then (if 0 ≤ x33 then (if x33 < (x370002.length : Int) then ((impl_Cell_shifted.f ((rd_T91 x370002 x33).f0.f0) ((rd_T91 x370002 x33).f0.f1) x1 x2).bind fun bt372 => ((some (x370002.set (x33 : Int).toNat (⟨(⟨bt372.1, bt372.2⟩ : S74), (rd_T91 x370002 x33).f1, (rd_T91 x370002 x33).f2, (rd_T91 x370002 x33).f3⟩ : S91) : List (S91))).bind fun y374 => ((impl_Board_has.f [(⟨x357000, x357001, x357002⟩ : S37)] ((rd_T91 y374 x33).f0.f0) ((rd_T91 y374 x33).f0.f1)).bind fun t376 => (if t376 = true then (impl_MoveBoard.l0 k x1 x2 x32 (wrap64 (x33 + 1)) x357000 x357001 x357002 x370000 x370001 y374) else (some (0, 0, ([] : List (S91)), 4)))))) else (none)) else (none)) else (some (x370000, x370001, x370002, 0))
def impl_MoveBoard.f (k : Nat) (a0_0 : Int) (a0_1 : Int) (l0_2 : List (S91)) (a1 : Int) (a2 : Int) : Option (Int × Int × (List (S91)) × Int) := (impl_ValidBoard.f k a0_0 a0_1 l0_2).bind fun t358 => (if t358 = true then ((impl_in.f a1 (-24) 24).bind fun t359 => (if t359 = true then ((impl_in.f a2 (-24) 24).bind fun t360 => (if t360 = true then ((impl_Piece_113.f l0_2).bind fun t361 => ((impl_Board_with.f [(⟨a0_0, a0_1, l0_2⟩ : S37)] t361).bind fun bt364 => (impl_MoveBoard.l0 k a1 a2 (t361.length : Int) 0 a0_0 a0_1 l0_2 bt364.1 bt364.2 t361))) else (some (0, 0, ([] : List (S91)), 2)))) else (some (0, 0, ([] : List (S91)), 2)))) else (some (0, 0, ([] : List (S91)), 1)))
theorem impl_MoveBoard.mono_l : ∀ k, (∀ y0 y1 y2 y3 y4 y5 y6 y7 y8 y9, LeO (impl_MoveBoard.l0 k y0 y1 y2 y3 y4 y5 y6 y7 y8 y9) (impl_MoveBoard.l0 (k + 1) y0 y1 y2 y3 y4 y5 y6 y7 y8 y9))
  | 0 => fun _ _ _ _ _ _ _ _ _ _ r h => by simp [impl_MoveBoard.l0] at h
  | k + 1 => by
    have ih0 := impl_MoveBoard.mono_l k
    · intro y0 y1 y2 y3 y4 y5 y6 y7 y8 y9
      unfold impl_MoveBoard.l0
      repeat' first | (with_reducible first | apply ih0 | apply impl_ValidBoard.mono | exact LeO.refl _ | exact LeO.none _ | refine LeO.ite ?_ ?_ | refine LeO.bind ?_ (fun _ => ?_)) | apply ih0 | apply impl_ValidBoard.mono | exact LeO.none _ | refine LeO.ite ?_ ?_ | refine LeO.bind ?_ (fun _ => ?_)
theorem impl_MoveBoard.mono : ∀ a0 a1 a2 a3 a4 k, LeO (impl_MoveBoard.f k a0 a1 a2 a3 a4) (impl_MoveBoard.f (k + 1) a0 a1 a2 a3 a4) := by
 intro a0 a1 a2 a3 a4 k
 have ih0 := impl_MoveBoard.mono_l k
 unfold impl_MoveBoard.f
 repeat' first | (with_reducible first | apply ih0 | apply impl_ValidBoard.mono | exact LeO.refl _ | exact LeO.none _ | refine LeO.ite ?_ ?_ | refine LeO.bind ?_ (fun _ => ?_)) | apply ih0 | apply impl_ValidBoard.mono | exact LeO.none _ | refine LeO.ite ?_ ?_ | refine LeO.bind ?_ (fun _ => ?_)
theorem impl_MoveBoard.calls (k : Nat) (a0_0 : Int) (a0_1 : Int) (A0_2 : Option Addr) (c0_2 : Nat) (l0_2 : List (S91)) (a1 : Int) (a2 : Int) (r1 : Int) (r2 : Int) (r3 : List (S91)) (r4 : Int) (w : World) (hr0_2 : Kd.C k91 w A0_2 l0_2.length l0_2) (hc0_2 : l0_2.length ≤ c0_2) (h : impl_MoveBoard.f k a0_0 a0_1 l0_2 a1 a2 = some (r1, r2, r3, r4)) :
    Calls Try.prog 63 #[.agg #[.int .i8 a0_0, .int .i8 a0_1, .slice A0_2 l0_2.length c0_2], .int .i64 a1, .int .i64 a2] w fun e w' => ∃ v2_ : Value, e = .returned (.tuple #[.agg #[.int .i8 r1, .int .i8 r2, v2_], .int .i64 r4]) ∧ Kd.R k91 91 w' w.heap.size (fun _ => True) v2_ r3 ∧ Below w.heap.size w w' := by
 have hu37 := Try.underlying37
 have hu74 := Try.underlying74
 have HR0_2 := Aside0.mk hr0_2
 have HC0_2 := Aside0.mk hc0_2
 clear hr0_2 hc0_2
 have HB := Aside0.mk (Below.refl w.heap.size w)
 have H : ((impl_ValidBoard.f k a0_0 a0_1 l0_2).bind fun t358 => (if t358 = true then ((impl_in.f a1 (-24) 24).bind fun t359 => (if t359 = true then ((impl_in.f a2 (-24) 24).bind fun t360 => (if t360 = true then ((impl_Piece_113.f l0_2).bind fun t361 => ((impl_Board_with.f [(⟨a0_0, a0_1, l0_2⟩ : S37)] t361).bind fun bt364 => (impl_MoveBoard.l0 k a1 a2 (t361.length : Int) 0 a0_0 a0_1 l0_2 bt364.1 bt364.2 t361))) else (some (0, 0, ([] : List (S91)), 2)))) else (some (0, 0, ([] : List (S91)), 2)))) else (some (0, 0, ([] : List (S91)), 1)))) = some (r1, r2, r3, r4) := h
 clear h
 replace H := zob H
 obtain ⟨t358, A40, H⟩ := H
 replace H : (if t358 = true then ((impl_in.f a1 (-24) 24).bind fun t359 => (if t359 = true then ((impl_in.f a2 (-24) 24).bind fun t360 => (if t360 = true then ((impl_Piece_113.f l0_2).bind fun t361 => ((impl_Board_with.f [(⟨a0_0, a0_1, l0_2⟩ : S37)] t361).bind fun bt364 => (impl_MoveBoard.l0 k a1 a2 (t361.length : Int) 0 a0_0 a0_1 l0_2 bt364.1 bt364.2 t361))) else (some (0, 0, ([] : List (S91)), 2)))) else (some (0, 0, ([] : List (S91)), 2)))) else (some (0, 0, ([] : List (S91)), 1))) = some (r1, r2, r3, r4) := H
 have A4 := Aside0.mk A40
 clear A40
 by_cases c5 : t358 = true
 rotate_left
 ·replace c5 := Bool.eq_false_iff.mpr c5
  subst c5
  have H1 : (some (0, 0, ([] : List (S91)), 1)) = some (r1, r2, r3, r4) := by rw [if_neg (show ¬ (false = true) by decide)] at H; exact H
  clear H
  have H := H1
  clear H1
  simp only [Option.some.injEq, Prod.mk.injEq] at H
  obtain ⟨rfl, rfl, rfl, rfl⟩ := H
  go_enter Try.func63, Try.ntmps63
  go_wp2_with (first | ((with_reducible refine gate_dst (N := 3) rfl ?_); refine zbx 3 #[.int .i8 a0_0, .int .i8 a0_1, .slice A0_2 l0_2.length c0_2] 37 ?_; intro gb356 hg w68 hbox hb; have n_ : _ ∧ _ ∧ _ ∧ _ := ⟨zb HB hb, Aside0.mk (hbox), zg HB hg, zg HB hg⟩; clear HB; obtain ⟨HB, BK356, GW356, GE356⟩ := n_; clear hb hbox hg) | ((with_reducible refine gate_dst (N := 6) rfl ?_); refine zbx 6 #[.int .i8 0, .int .i8 0, .slice none 0 0] 37 ?_; intro gb357 hg w69 hbox hb; have n_ : _ ∧ _ ∧ _ ∧ _ ∧ _ ∧ _ ∧ _ := ⟨zk BK356 hb, zbs hb, Aside0.mk (hbox), zg HB hg, zg HB hg, zn1 BK356 hg, zn2 BK356 hg⟩; clear BK356 HB; obtain ⟨BK356, HB, BK357, GW357, GE357, NB356_357, NB357_356⟩ := n_; clear hb hbox hg; have hnb70 := NB356_357.out; have hnc70 := NB357_356.out; obtain ⟨z71_0, z71_1, z71_2, y71_0, y71_1, y71_2⟩ := zB3 BK356) | ((with_reducible refine gate_callee (f := 43) rfl ?_); refine goesL_ (some 13) rfl rfl Try.func43 (by kernel_rfl) rfl #[.agg #[.int .i8 a0_0, .int .i8 a0_1, .slice A0_2 l0_2.length c0_2]] rfl zm ?_; (with_reducible refine (impl_ValidBoard.calls k a0_0 a0_1 _ _ l0_2 false _ ?side1 ?side2 A4.out).mono ?_); (case side1 => exact zcc HB HR0_2.out); (case side2 => exact HC0_2.out); rintro e w72 ⟨rfl, hb⟩; refine ⟨_, rfl, ?_⟩; have n_ : _ ∧ _ ∧ _ := ⟨zk BK356 hb, zk BK357 hb, zbs hb⟩; clear BK356 BK357 HB; obtain ⟨BK356, BK357, HB⟩ := n_; (try clear hb); (try clear hb2); (try clear hk); (try clear hi); obtain ⟨z73_0, z73_1, z73_2, y73_0, y73_1, y73_2⟩ := zB3 BK357))
  refine bodyPost_ret (results_ct rfl _ _ gb357 37 #[.int .i8 0, .int .i8 0, .slice none 0 0] (0, 0) _ rfl (zp BK357) Try.underlying37 rfl (by kernel_rfl)) rfl ?_
  exact ⟨_, zv, by first | exact Kd.R_nil _ _ _ _ _ | exact Kd.N_nil _ _ _ _ _ | exact Kd.V_nil _ _ _ _ _ | exact Kd.Q_nil _ _ _ _ _ | exact Kd.S_nil _ _ _ _ _, zbo⟩
 subst c5
 have H1 : ((impl_in.f a1 (-24) 24).bind fun t359 => (if t359 = true then ((impl_in.f a2 (-24) 24).bind fun t360 => (if t360 = true then ((impl_Piece_113.f l0_2).bind fun t361 => ((impl_Board_with.f [(⟨a0_0, a0_1, l0_2⟩ : S37)] t361).bind fun bt364 => (impl_MoveBoard.l0 k a1 a2 (t361.length : Int) 0 a0_0 a0_1 l0_2 bt364.1 bt364.2 t361))) else (some (0, 0, ([] : List (S91)), 2)))) else (some (0, 0, ([] : List (S91)), 2)))) = some (r1, r2, r3, r4) := by rw [if_pos rfl] at H; exact H
 clear H
 have H := H1
 clear H1
 replace H := zob H
 obtain ⟨t359, A60, H⟩ := H
 replace H : (if t359 = true then ((impl_in.f a2 (-24) 24).bind fun t360 => (if t360 = true then ((impl_Piece_113.f l0_2).bind fun t361 => ((impl_Board_with.f [(⟨a0_0, a0_1, l0_2⟩ : S37)] t361).bind fun bt364 => (impl_MoveBoard.l0 k a1 a2 (t361.length : Int) 0 a0_0 a0_1 l0_2 bt364.1 bt364.2 t361))) else (some (0, 0, ([] : List (S91)), 2)))) else (some (0, 0, ([] : List (S91)), 2))) = some (r1, r2, r3, r4) := H
 have A6 := Aside0.mk A60
 clear A60
 by_cases c7 : t359 = true
 rotate_left
 ·replace c7 := Bool.eq_false_iff.mpr c7
  subst c7
  have H1 : (some (0, 0, ([] : List (S91)), 2)) = some (r1, r2, r3, r4) := by rw [if_neg (show ¬ (false = true) by decide)] at H; exact H
  clear H
  have H := H1
  clear H1
  simp only [Option.some.injEq, Prod.mk.injEq] at H
  obtain ⟨rfl, rfl, rfl, rfl⟩ := H
  go_enter Try.func63, Try.ntmps63
  go_wp2_with (first | ((with_reducible refine gate_dst (N := 3) rfl ?_); refine zbx 3 #[.int .i8 a0_0, .int .i8 a0_1, .slice A0_2 l0_2.length c0_2] 37 ?_; intro gb356 hg w62 hbox hb; have n_ : _ ∧ _ ∧ _ ∧ _ := ⟨zb HB hb, Aside0.mk (hbox), zg HB hg, zg HB hg⟩; clear HB; obtain ⟨HB, BK356, GW356, GE356⟩ := n_; clear hb hbox hg) | ((with_reducible refine gate_dst (N := 6) rfl ?_); refine zbx 6 #[.int .i8 0, .int .i8 0, .slice none 0 0] 37 ?_; intro gb357 hg w63 hbox hb; have n_ : _ ∧ _ ∧ _ ∧ _ ∧ _ ∧ _ ∧ _ := ⟨zk BK356 hb, zbs hb, Aside0.mk (hbox), zg HB hg, zg HB hg, zn1 BK356 hg, zn2 BK356 hg⟩; clear BK356 HB; obtain ⟨BK356, HB, BK357, GW357, GE357, NB356_357, NB357_356⟩ := n_; clear hb hbox hg; have hnb64 := NB356_357.out; have hnc64 := NB357_356.out; obtain ⟨z65_0, z65_1, z65_2, y65_0, y65_1, y65_2⟩ := zB3 BK356) | ((with_reducible refine gate_callee (f := 43) rfl ?_); refine goesL_ (some 13) rfl rfl Try.func43 (by kernel_rfl) rfl #[.agg #[.int .i8 a0_0, .int .i8 a0_1, .slice A0_2 l0_2.length c0_2]] rfl zm ?_; (with_reducible refine (impl_ValidBoard.calls k a0_0 a0_1 _ _ l0_2 true _ ?side1 ?side2 A4.out).mono ?_); (case side1 => exact zcc HB HR0_2.out); (case side2 => exact HC0_2.out); rintro e w66 ⟨rfl, hb⟩; refine ⟨_, rfl, ?_⟩; have n_ : _ ∧ _ ∧ _ := ⟨zk BK356 hb, zk BK357 hb, zbs hb⟩; clear BK356 BK357 HB; obtain ⟨BK356, BK357, HB⟩ := n_; (try clear hb); (try clear hb2); (try clear hk); (try clear hi)) | ((with_reducible refine gate_callee (f := 98) rfl ?_); refine goesL_ (some 18) rfl rfl Try.func98 (by kernel_rfl) rfl #[.int .i64 a1, .int .i64 (-24), .int .i64 24] rfl zm ?_; (with_reducible refine (impl_in.calls a1 (-24) 24 false _ A6.out).mono ?_); rintro e w' ⟨rfl, ⟨nd, rfl⟩⟩; refine ⟨_, rfl, ?_⟩; (try (rw [drewN_self w66]; generalize hq_ : World.drewN w66 _ = w66; have n0_ : Aside0 (w66.heap[gb356]? = some (.cells #[.int .i8 a0_0, .int .i8 a0_1, .slice A0_2 l0_2.length c0_2] 37 (0, 0))) := ⟨by rw [← hq_]; exact (zh BK356).out⟩; have n1_ : Aside0 (w66.heap[gb357]? = some (.cells #[.int .i8 0, .int .i8 0, .slice none 0 0] 37 (0, 0))) := ⟨by rw [← hq_]; exact (zh BK357).out⟩; have n2_ : Aside0 (Below w.heap.size w w66) := ⟨by rw [← hq_]; exact zbo⟩; clear BK356 BK357 HB hq_; have BK356 := n0_; have BK357 := n1_; have HB := n2_; clear n0_ n1_ n2_)); obtain ⟨z67_0, z67_1, z67_2, y67_0, y67_1, y67_2⟩ := zB3 BK357))
  refine bodyPost_ret (results_ct rfl _ _ gb357 37 #[.int .i8 0, .int .i8 0, .slice none 0 0] (0, 0) _ rfl (zp BK357) Try.underlying37 rfl (by kernel_rfl)) rfl ?_
  exact ⟨_, zv, by first | exact Kd.R_nil _ _ _ _ _ | exact Kd.N_nil _ _ _ _ _ | exact Kd.V_nil _ _ _ _ _ | exact Kd.Q_nil _ _ _ _ _ | exact Kd.S_nil _ _ _ _ _, zbo⟩
 subst c7
 have H1 : ((impl_in.f a2 (-24) 24).bind fun t360 => (if t360 = true then ((impl_Piece_113.f l0_2).bind fun t361 => ((impl_Board_with.f [(⟨a0_0, a0_1, l0_2⟩ : S37)] t361).bind fun bt364 => (impl_MoveBoard.l0 k a1 a2 (t361.length : Int) 0 a0_0 a0_1 l0_2 bt364.1 bt364.2 t361))) else (some (0, 0, ([] : List (S91)), 2)))) = some (r1, r2, r3, r4) := by rw [if_pos rfl] at H; exact H
 clear H
 have H := H1
 clear H1
 replace H := zob H
 obtain ⟨t360, A80, H⟩ := H
 replace H : (if t360 = true then ((impl_Piece_113.f l0_2).bind fun t361 => ((impl_Board_with.f [(⟨a0_0, a0_1, l0_2⟩ : S37)] t361).bind fun bt364 => (impl_MoveBoard.l0 k a1 a2 (t361.length : Int) 0 a0_0 a0_1 l0_2 bt364.1 bt364.2 t361))) else (some (0, 0, ([] : List (S91)), 2))) = some (r1, r2, r3, r4) := H
 have A8 := Aside0.mk A80
 clear A80
 by_cases c9 : t360 = true
 rotate_left
 ·replace c9 := Bool.eq_false_iff.mpr c9
  subst c9
  have H1 : (some (0, 0, ([] : List (S91)), 2)) = some (r1, r2, r3, r4) := by rw [if_neg (show ¬ (false = true) by decide)] at H; exact H
  clear H
  have H := H1
  clear H1
  simp only [Option.some.injEq, Prod.mk.injEq] at H
  obtain ⟨rfl, rfl, rfl, rfl⟩ := H
  go_enter Try.func63, Try.ntmps63
  go_wp2_with (first | ((with_reducible refine gate_dst (N := 3) rfl ?_); refine zbx 3 #[.int .i8 a0_0, .int .i8 a0_1, .slice A0_2 l0_2.length c0_2] 37 ?_; intro gb356 hg w56 hbox hb; have n_ : _ ∧ _ ∧ _ ∧ _ := ⟨zb HB hb, Aside0.mk (hbox), zg HB hg, zg HB hg⟩; clear HB; obtain ⟨HB, BK356, GW356, GE356⟩ := n_; clear hb hbox hg) | ((with_reducible refine gate_dst (N := 6) rfl ?_); refine zbx 6 #[.int .i8 0, .int .i8 0, .slice none 0 0] 37 ?_; intro gb357 hg w57 hbox hb; have n_ : _ ∧ _ ∧ _ ∧ _ ∧ _ ∧ _ ∧ _ := ⟨zk BK356 hb, zbs hb, Aside0.mk (hbox), zg HB hg, zg HB hg, zn1 BK356 hg, zn2 BK356 hg⟩; clear BK356 HB; obtain ⟨BK356, HB, BK357, GW357, GE357, NB356_357, NB357_356⟩ := n_; clear hb hbox hg; have hnb58 := NB356_357.out; have hnc58 := NB357_356.out; obtain ⟨z59_0, z59_1, z59_2, y59_0, y59_1, y59_2⟩ := zB3 BK356) | ((with_reducible refine gate_callee (f := 43) rfl ?_); refine goesL_ (some 13) rfl rfl Try.func43 (by kernel_rfl) rfl #[.agg #[.int .i8 a0_0, .int .i8 a0_1, .slice A0_2 l0_2.length c0_2]] rfl zm ?_; (with_reducible refine (impl_ValidBoard.calls k a0_0 a0_1 _ _ l0_2 true _ ?side1 ?side2 A4.out).mono ?_); (case side1 => exact zcc HB HR0_2.out); (case side2 => exact HC0_2.out); rintro e w60 ⟨rfl, hb⟩; refine ⟨_, rfl, ?_⟩; have n_ : _ ∧ _ ∧ _ := ⟨zk BK356 hb, zk BK357 hb, zbs hb⟩; clear BK356 BK357 HB; obtain ⟨BK356, BK357, HB⟩ := n_; (try clear hb); (try clear hb2); (try clear hk); (try clear hi)) | ((with_reducible refine gate_callee (f := 98) rfl ?_); refine goesL_ (some 18) rfl rfl Try.func98 (by kernel_rfl) rfl #[.int .i64 a1, .int .i64 (-24), .int .i64 24] rfl zm ?_; (with_reducible refine (impl_in.calls a1 (-24) 24 true _ A6.out).mono ?_); rintro e w' ⟨rfl, ⟨nd, rfl⟩⟩; refine ⟨_, rfl, ?_⟩; (try (rw [drewN_self w60]; generalize hq_ : World.drewN w60 _ = w60; have n0_ : Aside0 (w60.heap[gb356]? = some (.cells #[.int .i8 a0_0, .int .i8 a0_1, .slice A0_2 l0_2.length c0_2] 37 (0, 0))) := ⟨by rw [← hq_]; exact (zh BK356).out⟩; have n1_ : Aside0 (w60.heap[gb357]? = some (.cells #[.int .i8 0, .int .i8 0, .slice none 0 0] 37 (0, 0))) := ⟨by rw [← hq_]; exact (zh BK357).out⟩; have n2_ : Aside0 (Below w.heap.size w w60) := ⟨by rw [← hq_]; exact zbo⟩; clear BK356 BK357 HB hq_; have BK356 := n0_; have BK357 := n1_; have HB := n2_; clear n0_ n1_ n2_))) | (go_at_call 98; (with_reducible refine (impl_in.calls a2 (-24) 24 false _ A8.out).mono ?_); rintro e w' ⟨rfl, ⟨nd, rfl⟩⟩; (try (rw [drewN_self w60]; generalize hq_ : World.drewN w60 _ = w60; have n0_ : Aside0 (w60.heap[gb356]? = some (.cells #[.int .i8 a0_0, .int .i8 a0_1, .slice A0_2 l0_2.length c0_2] 37 (0, 0))) := ⟨by rw [← hq_]; exact (zh BK356).out⟩; have n1_ : Aside0 (w60.heap[gb357]? = some (.cells #[.int .i8 0, .int .i8 0, .slice none 0 0] 37 (0, 0))) := ⟨by rw [← hq_]; exact (zh BK357).out⟩; have n2_ : Aside0 (Below w.heap.size w w60) := ⟨by rw [← hq_]; exact zbo⟩; clear BK356 BK357 HB hq_; have BK356 := n0_; have BK357 := n1_; have HB := n2_; clear n0_ n1_ n2_)); obtain ⟨z61_0, z61_1, z61_2, y61_0, y61_1, y61_2⟩ := zB3 BK357))
  refine bodyPost_ret (results_ct rfl _ _ gb357 37 #[.int .i8 0, .int .i8 0, .slice none 0 0] (0, 0) _ rfl (zp BK357) Try.underlying37 rfl (by kernel_rfl)) rfl ?_
  exact ⟨_, zv, by first | exact Kd.R_nil _ _ _ _ _ | exact Kd.N_nil _ _ _ _ _ | exact Kd.V_nil _ _ _ _ _ | exact Kd.Q_nil _ _ _ _ _ | exact Kd.S_nil _ _ _ _ _, zbo⟩
 subst c9
 have H1 : ((impl_Piece_113.f l0_2).bind fun t361 => ((impl_Board_with.f [(⟨a0_0, a0_1, l0_2⟩ : S37)] t361).bind fun bt364 => (impl_MoveBoard.l0 k a1 a2 (t361.length : Int) 0 a0_0 a0_1 l0_2 bt364.1 bt364.2 t361))) = some (r1, r2, r3, r4) := by rw [if_pos rfl] at H; exact H
 clear H
 have H := H1
 clear H1
 replace H := zob H
 obtain ⟨t361, A100, H⟩ := H
 replace H : ((impl_Board_with.f [(⟨a0_0, a0_1, l0_2⟩ : S37)] t361).bind fun bt364 => (impl_MoveBoard.l0 k a1 a2 (t361.length : Int) 0 a0_0 a0_1 l0_2 bt364.1 bt364.2 t361)) = some (r1, r2, r3, r4) := H
 have A10 := Aside0.mk A100
 clear A100
 replace H := zob H
 obtain ⟨⟨t364, t365⟩, A110, H⟩ := H
 replace H : (impl_MoveBoard.l0 k a1 a2 (t361.length : Int) 0 a0_0 a0_1 l0_2 t364 t365 t361) = some (r1, r2, r3, r4) := H
 have A11 := Aside0.mk A110
 clear A110
 have H' := Aside0.mk H
 clear H
 go_enter Try.func63, Try.ntmps63
 go_wp2_with (first | ((with_reducible refine gate_dst (N := 3) rfl ?_); refine zbx 3 #[.int .i8 a0_0, .int .i8 a0_1, .slice A0_2 l0_2.length c0_2] 37 ?_; intro gb356 hg w12 hbox hb; have n_ : _ ∧ _ ∧ _ ∧ _ := ⟨zb HB hb, Aside0.mk (hbox), zg HB hg, zg HB hg⟩; clear HB; obtain ⟨HB, BK356, GW356, GE356⟩ := n_; clear hb hbox hg) | ((with_reducible refine gate_dst (N := 6) rfl ?_); refine zbx 6 #[.int .i8 0, .int .i8 0, .slice none 0 0] 37 ?_; intro gb357 hg w13 hbox hb; have n_ : _ ∧ _ ∧ _ ∧ _ ∧ _ ∧ _ ∧ _ := ⟨zk BK356 hb, zbs hb, Aside0.mk (hbox), zg HB hg, zg HB hg, zn1 BK356 hg, zn2 BK356 hg⟩; clear BK356 HB; obtain ⟨BK356, HB, BK357, GW357, GE357, NB356_357, NB357_356⟩ := n_; clear hb hbox hg; have hnb14 := NB356_357.out; have hnc14 := NB357_356.out; obtain ⟨z15_0, z15_1, z15_2, y15_0, y15_1, y15_2⟩ := zB3 BK356) | ((with_reducible refine gate_callee (f := 43) rfl ?_); refine goesL_ (some 13) rfl rfl Try.func43 (by kernel_rfl) rfl #[.agg #[.int .i8 a0_0, .int .i8 a0_1, .slice A0_2 l0_2.length c0_2]] rfl zm ?_; (with_reducible refine (impl_ValidBoard.calls k a0_0 a0_1 _ _ l0_2 true _ ?side1 ?side2 A4.out).mono ?_); (case side1 => exact zcc HB HR0_2.out); (case side2 => exact HC0_2.out); rintro e w16 ⟨rfl, hb⟩; refine ⟨_, rfl, ?_⟩; have n_ : _ ∧ _ ∧ _ := ⟨zk BK356 hb, zk BK357 hb, zbs hb⟩; clear BK356 BK357 HB; obtain ⟨BK356, BK357, HB⟩ := n_; (try clear hb); (try clear hb2); (try clear hk); (try clear hi)) | ((with_reducible refine gate_callee (f := 98) rfl ?_); refine goesL_ (some 18) rfl rfl Try.func98 (by kernel_rfl) rfl #[.int .i64 a1, .int .i64 (-24), .int .i64 24] rfl zm ?_; (with_reducible refine (impl_in.calls a1 (-24) 24 true _ A6.out).mono ?_); rintro e w' ⟨rfl, ⟨nd, rfl⟩⟩; refine ⟨_, rfl, ?_⟩; (try (rw [drewN_self w16]; generalize hq_ : World.drewN w16 _ = w16; have n0_ : Aside0 (w16.heap[gb356]? = some (.cells #[.int .i8 a0_0, .int .i8 a0_1, .slice A0_2 l0_2.length c0_2] 37 (0, 0))) := ⟨by rw [← hq_]; exact (zh BK356).out⟩; have n1_ : Aside0 (w16.heap[gb357]? = some (.cells #[.int .i8 0, .int .i8 0, .slice none 0 0] 37 (0, 0))) := ⟨by rw [← hq_]; exact (zh BK357).out⟩; have n2_ : Aside0 (Below w.heap.size w w16) := ⟨by rw [← hq_]; exact zbo⟩; clear BK356 BK357 HB hq_; have BK356 := n0_; have BK357 := n1_; have HB := n2_; clear n0_ n1_ n2_))) | (go_at_call 98; (with_reducible refine (impl_in.calls a2 (-24) 24 true _ A8.out).mono ?_); rintro e w' ⟨rfl, ⟨nd, rfl⟩⟩; (try (rw [drewN_self w16]; generalize hq_ : World.drewN w16 _ = w16; have n0_ : Aside0 (w16.heap[gb356]? = some (.cells #[.int .i8 a0_0, .int .i8 a0_1, .slice A0_2 l0_2.length c0_2] 37 (0, 0))) := ⟨by rw [← hq_]; exact (zh BK356).out⟩; have n1_ : Aside0 (w16.heap[gb357]? = some (.cells #[.int .i8 0, .int .i8 0, .slice none 0 0] 37 (0, 0))) := ⟨by rw [← hq_]; exact (zh BK357).out⟩; have n2_ : Aside0 (Below w.heap.size w w16) := ⟨by rw [← hq_]; exact zbo⟩; clear BK356 BK357 HB hq_; have BK356 := n0_; have BK357 := n1_; have HB := n2_; clear n0_ n1_ n2_)); obtain ⟨z17_0, z17_1, z17_2, y17_0, y17_1, y17_2⟩ := zB3 BK356) | ((with_reducible refine gate_callee (f := 113) rfl ?_); refine goesL_ (some 28) rfl rfl Try.func113 (by kernel_rfl) rfl #[.slice A0_2 l0_2.length c0_2] rfl zm ?_; (with_reducible refine (impl_Piece_113.calls _ _ l0_2 t361 _ ?side1 ?side2 A10.out).mono ?_); (case side1 => exact zcc HB HR0_2.out); (case side2 => exact HC0_2.out); rintro e w18 ⟨v362, rfl, ho0, hb⟩; refine ⟨_, rfl, ?_⟩; have n_ : _ ∧ _ ∧ _ ∧ _ := ⟨Aside0.mk (Kd.R_lower ho0 (zz HB)), zk BK356 hb, zk BK357 hb, zbs hb⟩; clear BK356 BK357 HB; obtain ⟨HO363, BK356, BK357, HB⟩ := n_; (try clear hb); (try clear hb2); (try clear hk); (try clear hi); (try clear ho0); obtain ⟨Ao19, co19, eo19⟩ := Kd.R_slice HO363.out; subst eo19) | ((with_reducible refine gate_callee (f := 112) rfl ?_); refine goesL_ (some 29) rfl rfl Try.func112 (by kernel_rfl) rfl #[.pointer (some ⟨gb356, 0, none⟩), .slice Ao19 t361.length co19] rfl zm ?_; (with_reducible refine (impl_Board_with.calls _ [(⟨a0_0, a0_1, l0_2⟩ : S37)] _ _ t361 t364 t365 _ ?side1 ?side2 ?side3 A11.out).mono ?_); (case side1 => refine ro_of_blk (T := 37) (cs := #[.int .i8 a0_0, .int .i8 a0_1, .slice A0_2 l0_2.length c0_2]) (zh BK356).out ?_; exact k37_mk _ (⟨a0_0, a0_1, l0_2⟩ : S37) (by exact HC0_2.out) (by exact zcc HB HR0_2.out)); (case side2 => exact zrc HO363); (case side3 => exact (Kd.R_reads' HO363.out).2.1); rintro e w20 ⟨rfl, hb⟩; refine ⟨_, rfl, ?_⟩; have n_ : _ ∧ _ ∧ _ ∧ _ := ⟨zr HO363 hb, zk BK356 hb, zk BK357 hb, zbs hb⟩; clear HO363 BK356 BK357 HB; obtain ⟨HO363, BK356, BK357, HB⟩ := n_; (try clear hb); (try clear hb2); (try clear hk); (try clear hi)) | ((with_reducible refine gate_dst (N := 8) rfl ?_); refine zbx 8 #[.int .i8 0, .int .i8 0, .slice none 0 0] 37 ?_; intro gb369 hg w21 hbox hb; have n_ : _ ∧ _ ∧ _ ∧ _ ∧ _ ∧ _ ∧ _ ∧ _ ∧ _ ∧ _ ∧ _ := ⟨zr HO363 hb, zk BK356 hb, zk BK357 hb, zbs hb, Aside0.mk (hbox), zg HB hg, zg HB hg, zn1 BK356 hg, zn2 BK356 hg, zn1 BK357 hg, zn2 BK357 hg⟩; clear HO363 BK356 BK357 HB; obtain ⟨HO363, BK356, BK357, HB, BK369, GW369, GE369, NB356_369, NB369_356, NB357_369, NB369_357⟩ := n_; clear hb hbox hg; have hnb22 := NB369_356.out; have hnc22 := NB356_369.out; have hnb23 := NB369_357.out; have hnc23 := NB357_369.out; obtain ⟨z24_0, z24_1, z24_2, y24_0, y24_1, y24_2⟩ := zB3 BK369))
 go_loopg [33] k (fun kq v33 w' => ∃ (x33_1 : Int) (x358000_1 : Int) (x358001_1 : Int) (x370002_1 : List (S91)) (u370002 : Value), v33 = .int .i64 x33_1 ∧ Aside0 (impl_MoveBoard.l0 kq a1 a2 (t361.length : Int) x33_1 a0_0 a0_1 l0_2 t364 t365 x370002_1 = some (r1, r2, r3, r4)) ∧ Aside0 (kq ≤ k) ∧ Aside0 (Kd.R k91 91 w' w.heap.size (fun _ => True) u370002 x370002_1) ∧ Aside0 (w'.heap[gb356]? = some (.cells #[.int .i8 a0_0, .int .i8 a0_1, (.slice A0_2 l0_2.length c0_2)] 37 (0, 0))) ∧ Aside0 (w'.heap[gb357]? = some (.cells #[.int .i8 x358000_1, .int .i8 x358001_1, (.slice none 0 0)] 37 (0, 0))) ∧ Aside0 (w'.heap[gb369]? = some (.cells #[.int .i8 t364, .int .i8 t365, u370002] 37 (0, 0))) ∧ Aside0 (Below w.heap.size w w'))
 case atStart => exact ⟨(0), (0), (0), (t361), (.slice Ao19 t361.length co19), zi, H', ⟨Nat.le_refl _⟩, ⟨Kd.R_mono (zs HO363 BK369).out (fun _ hk => trivial)⟩, zf BK356 NB356_369, zf BK357 NB357_369, ⟨zp BK369⟩, zba⟩
 clear H'
 try clear c1
 try clear c2
 try clear p2
 try clear c4
 try clear c5
 try clear c6
 try clear c7
 try clear c9
 try clear c11
 try clear c14
 try clear c22
 try clear c23
 try clear z15_0 z15_1 z15_2
 try clear z17_0 z17_1 z17_2
 try clear z24_0 z24_1 z24_2
 try clear y15_0
 try clear y15_1
 try clear y15_2
 try clear y17_0
 try clear y17_1
 try clear y17_2
 try clear y24_0
 try clear y24_1
 try clear y24_2
 obtain ⟨x33_1, x358000_1, x358001_1, x370002_1, u370002, rfl, HA, HK1, HO_370002, BK356, BK357, BK369, HB⟩ := hrel
 cases gk with
 | zero => exact absurd HA.out (by simp [impl_MoveBoard.l0])
 | succ k1 => ?_
 have H := HA.out
 clear HA
 simp only [impl_MoveBoard.l0] at H
 by_cases c25 : x33_1 < (t361.length : Int)
 rotate_left
 ·rw [if_neg c25] at H
  have c25b0 : decide (x33_1 < (t361.length : Int)) = false := decide_eq_false c25
  clear c25
  simp only [Option.some.injEq, Prod.mk.injEq] at H
  obtain ⟨rfl, rfl, rfl, rfl⟩ := H
  have hnb50 := NB369_356.out
  have hnc50 := NB356_369.out
  have hnb51 := NB369_357.out
  have hnc51 := NB357_369.out
  obtain ⟨z52_0, z52_1, z52_2, y52_0, y52_1, y52_2⟩ := zB3 BK369
  have hnb53 := NB357_356.out
  have hnc53 := NB356_357.out
  obtain ⟨z54_0, z54_1, z54_2, y54_0, y54_1, y54_2⟩ := zB3 BK357
  obtain ⟨Ao55, co55, eo55⟩ := Kd.R_slice HO_370002.out
  subst eo55
  go_wp2
  refine bodyPost_ret (results_ct rfl _ _ gb357 37 #[.int .i8 t364, .int .i8 t365, .slice Ao55 x370002_1.length co55] (0, 0) _ rfl (zp BK357) Try.underlying37 rfl (by kernel_rfl)) rfl ?_
  exact ⟨_, zv, Kd.R_mono (zs HO_370002 BK357).out (fun _ hk => trivial), zbo⟩
 rw [if_pos c25] at H
 have c25b0 : decide (x33_1 < (t361.length : Int)) = true := decide_eq_true c25
 clear c25
 by_cases c26 : 0 ≤ x33_1
 rotate_left
 ·rw [if_neg c26] at H
  exact absurd H (by simp)
 rw [if_pos c26] at H
 have c26b0 : decide (0 ≤ x33_1) = true := decide_eq_true c26
 clear c26
 by_cases c27 : x33_1 < (x370002_1.length : Int)
 rotate_left
 ·rw [if_neg c27] at H
  exact absurd H (by simp)
 rw [if_pos c27] at H
 have c27b0 : decide (x33_1 < (x370002_1.length : Int)) = true := decide_eq_true c27
 clear c27
 replace H := zob H
 obtain ⟨⟨t372, t373⟩, A280, H⟩ := H
 replace H : ((some (x370002_1.set (x33_1 : Int).toNat (⟨(⟨t372, t373⟩ : S74), (rd_T91 x370002_1 x33_1).f1, (rd_T91 x370002_1 x33_1).f2, (rd_T91 x370002_1 x33_1).f3⟩ : S91) : List (S91))).bind fun y374 => ((impl_Board_has.f [(⟨a0_0, a0_1, l0_2⟩ : S37)] ((rd_T91 y374 x33_1).f0.f0) ((rd_T91 y374 x33_1).f0.f1)).bind fun t376 => (if t376 = true then (impl_MoveBoard.l0 k1 a1 a2 (t361.length : Int) (wrap64 (x33_1 + 1)) a0_0 a0_1 l0_2 t364 t365 y374) else (some (0, 0, ([] : List (S91)), 4))))) = some (r1, r2, r3, r4) := H
 have A28 := Aside0.mk A280
 clear A280
 obtain ⟨y374, hy374⟩ : ∃ y_ : List (S91), y_ = (x370002_1.set (x33_1 : Int).toNat (⟨(⟨t372, t373⟩ : S74), (rd_T91 x370002_1 x33_1).f1, (rd_T91 x370002_1 x33_1).f2, (rd_T91 x370002_1 x33_1).f3⟩ : S91)) := ⟨_, rfl⟩
 replace H : ((impl_Board_has.f [(⟨a0_0, a0_1, l0_2⟩ : S37)] ((rd_T91 y374 x33_1).f0.f0) ((rd_T91 y374 x33_1).f0.f1)).bind fun t376 => (if t376 = true then (impl_MoveBoard.l0 k1 a1 a2 (t361.length : Int) (wrap64 (x33_1 + 1)) a0_0 a0_1 l0_2 t364 t365 y374) else (some (0, 0, ([] : List (S91)), 4)))) = some (r1, r2, r3, r4) := by first | (rw [hy374]; with_reducible exact H) | (have H2_ := (Option.bind_some _ _).symm.trans H; rw [hy374]; with_reducible exact H2_) | (have H2_ := (Option.bind_some _ _).symm.trans H; with_reducible exact H2_) | with_reducible exact H | (rw [hy374]; exact H) | exact H
 have Ny374 := Aside0.mk hy374
 clear hy374
 replace H := zob H
 obtain ⟨t376, A300, H⟩ := H
 replace H : (if t376 = true then (impl_MoveBoard.l0 k1 a1 a2 (t361.length : Int) (wrap64 (x33_1 + 1)) a0_0 a0_1 l0_2 t364 t365 y374) else (some (0, 0, ([] : List (S91)), 4))) = some (r1, r2, r3, r4) := H
 have A30 := Aside0.mk A300
 clear A300
 by_cases c31 : t376 = true
 ·subst c31
  have H1 : (impl_MoveBoard.l0 k1 a1 a2 (t361.length : Int) (wrap64 (x33_1 + 1)) a0_0 a0_1 l0_2 t364 t365 y374) = some (r1, r2, r3, r4) := by rw [if_pos rfl] at H; exact H
  clear H
  have H := H1
  clear H1
  have H' := Aside0.mk H
  clear H
  have hnb32 := NB369_356.out
  have hnc32 := NB356_369.out
  have hnb33 := NB369_357.out
  have hnc33 := NB357_369.out
  obtain ⟨z34_0, z34_1, z34_2, y34_0, y34_1, y34_2⟩ := zB3 BK369
  obtain ⟨Ao35, co35, eo35⟩ := Kd.R_slice HO_370002.out
  subst eo35
  have p370 : 0 ≤ (x33_1 : Int) := of_decide_eq_true zA
  have q370 : x33_1 < (x370002_1.length : Int) := of_decide_eq_true zA
  obtain ⟨ad370, e370, hx370_0, hx370_1, hx370_2, hx370_3, hx370_4⟩ := at_T91 (Kd.R_reads' HO_370002.out).2.2 x33_1 p370 q370
  cases e370
  replace p370 := eq_true p370
  replace q370 := eq_true q370
  have p371 : 0 ≤ (x33_1 : Int) := of_decide_eq_true zA
  have q371 : x33_1 < (x370002_1.length : Int) := of_decide_eq_true zA
  obtain ⟨ad371, e371, hx371_0, hx371_1, hx371_2, hx371_3, hx371_4⟩ := at_T91 (Kd.R_reads' HO_370002.out).2.2 x33_1 p371 q371
  obtain rfl : ad370 = ad371 := (by injection e371)
  replace p371 := eq_true p371
  replace q371 := eq_true q371
  go_wp2_with (first | ((with_reducible refine gate_callee (f := 102) rfl ?_); refine goesL_ (some 47) rfl rfl Try.func102 (by kernel_rfl) rfl #[.agg #[.int .i8 ((rd_T91 x370002_1 x33_1).f0.f0), .int .i8 ((rd_T91 x370002_1 x33_1).f0.f1)], .int .i64 a1, .int .i64 a2] rfl zm ?_; (with_reducible refine (impl_Cell_shifted.calls ((rd_T91 x370002_1 x33_1).f0.f0) ((rd_T91 x370002_1 x33_1).f0.f1) a1 a2 t372 t373 _ A28.out).mono ?_); rintro e w36 ⟨rfl, hb⟩; refine ⟨_, rfl, ?_⟩; have n_ : _ ∧ _ ∧ _ ∧ _ ∧ _ := ⟨zr HO_370002 hb, zk BK356 hb, zk BK357 hb, zk BK369 hb, zbs hb⟩; clear HO_370002 BK356 BK357 BK369 HB; obtain ⟨HO_370002, BK356, BK357, BK369, HB⟩ := n_; (try clear hb); (try clear hb2); (try clear hk); (try clear hi); have p29 : 0 ≤ (x33_1 : Int) := of_decide_eq_true zA; have q29 : (x33_1 : Int) < ((x370002_1.length : Int) : Int) := of_decide_eq_true zA; obtain ⟨go29, co29, eo29, gb29, gl29, cl29, HG29⟩ := Kd.R_form HO_370002.out (by omega); (first | cases eo29 | (injection eo29 with ea_ en_ ec_; (first | subst ea_ | (injection ea_ with ea_; subst ea_)); subst ec_; clear en_)); have GB29 := Aside0.mk gb29; have GG29 := Aside0.mk HG29; clear gb29 gl29 HG29; (first | simp only [add_plain] at hx370_0 | skip); (first | simp only [add_plain] at hx370_1 | skip); (first | simp only [add_plain] at hx370_2 | skip); (first | simp only [add_plain] at hx370_3 | skip); (first | simp only [add_plain] at hx370_4 | skip); (first | simp only [add_plain] at hx371_0 | skip); (first | simp only [add_plain] at hx371_1 | skip); (first | simp only [add_plain] at hx371_2 | skip); (first | simp only [add_plain] at hx371_3 | skip); (first | simp only [add_plain] at hx371_4 | skip); obtain ⟨ce29, hcl29, hM29, hcc29, hfr29⟩ := Kd.R_elem HO_370002.out z91 (x33_1 : Int) p29 q29; obtain rfl := k91_openM hM29; have hx29_0 : w36.cell? ⟨go29, (x33_1 : Int).toNat * 5, none⟩ = some (.int .i8 ((rd_T91 x370002_1 x33_1).f0.f0)) := hcc29 0 _ rfl; have hx29_1 : w36.cell? ⟨go29, (x33_1 : Int).toNat * 5 + 1, none⟩ = some (.int .i8 ((rd_T91 x370002_1 x33_1).f0.f1)) := hcc29 1 _ rfl; have hx29_2 : w36.cell? ⟨go29, (x33_1 : Int).toNat * 5 + 2, none⟩ = some (.int .i8 ((rd_T91 x370002_1 x33_1).f1)) := hcc29 2 _ rfl; have hx29_3 : w36.cell? ⟨go29, (x33_1 : Int).toNat * 5 + 3, none⟩ = some (.int .i8 ((rd_T91 x370002_1 x33_1).f2)) := hcc29 3 _ rfl; have hx29_4 : w36.cell? ⟨go29, (x33_1 : Int).toNat * 5 + 4, none⟩ = some (.int .i8 ((rd_T91 x370002_1 x33_1).f3)) := hcc29 4 _ rfl; have hf29_0 : w36.frozen? ⟨go29, (x33_1 : Int).toNat * 5, none⟩ = false := hfr29 0; have hf29_1 : w36.frozen? ⟨go29, (x33_1 : Int).toNat * 5 + 1, none⟩ = false := hfr29 1; have hf29_2 : w36.frozen? ⟨go29, (x33_1 : Int).toNat * 5 + 2, none⟩ = false := hfr29 2; have hf29_3 : w36.frozen? ⟨go29, (x33_1 : Int).toNat * 5 + 3, none⟩ = false := hfr29 3; have hf29_4 : w36.frozen? ⟨go29, (x33_1 : Int).toNat * 5 + 4, none⟩ = false := hfr29 4; clear hcl29 hcc29 hfr29 hM29; replace p29 := eq_true p29; replace q29 := eq_true q29; have HX37 := Aside0.mk (show Kd.R k91 91 w36 w.heap.size (fun _ => True) (.slice (some ⟨go29, 0, none⟩) x370002_1.length co35) x370002_1 from (ze HO_370002).out); obtain ⟨ce37, hcl37, hM37, hcc37, hfr37⟩ := Kd.R_elem HX37.out z91 (x33_1 : Int) (of_decide_eq_true zA) (zlt (x33_1 : Int) (x370002_1.length : Int) (Kd.R_reads' HO_370002.out).1); obtain rfl := k91_openM hM37; have HP37 := Kd.R_seg HX37.out (x33_1 : Int) (of_decide_eq_true zA) (zlt (x33_1 : Int) (x370002_1.length : Int) (Kd.R_reads' HO_370002.out).1) (seg := [.int .i8 t372, .int .i8 t373]) (j := 0) hcl37 hcc37 (show 2 ≤ 5 from by decide) (x' := (⟨(⟨t372, t373⟩ : S74), (rd_T91 x370002_1 x33_1).f1, (rd_T91 x370002_1 x33_1).f2, (rd_T91 x370002_1 x33_1).f3⟩ : S91)) (k91_mkM _ _ _ (⟨(⟨t372, t373⟩ : S74), (rd_T91 x370002_1 x33_1).f1, (rd_T91 x370002_1 x33_1).f2, (rd_T91 x370002_1 x33_1).f3⟩ : S91) ) (fun _ hk => hk); have hx37_0 := hcc37 0 _ rfl; (try simp only [show (k91).sz = 5 from rfl, Nat.mul_one, Nat.add_zero] at hx37_0); have hf37_0 := hfr37 0; (try simp only [show (k91).sz = 5 from rfl, Nat.mul_one, Nat.add_zero] at hf37_0); have hx37_1 := hcc37 1 _ rfl; (try simp only [show (k91).sz = 5 from rfl, Nat.mul_one, Nat.add_zero] at hx37_1); have hf37_1 := hfr37 1; (try simp only [show (k91).sz = 5 from rfl, Nat.mul_one, Nat.add_zero] at hf37_1); clear hcl37 hcc37 hfr37 hM37) | ((with_reducible refine gate_store (t := 74) (p := 49) rfl ?_); refine store_event (t := 74) (p := 49) (v := ?vo_w38) (w1 := ((w36.setCell ⟨go29, (x33_1 : Int).toNat * 5, none⟩ (.int .i8 t372)).setCell ⟨go29, (x33_1 : Int).toNat * 5 + 1, none⟩ (.int .i8 t373))) ?hg ?ho ?hn ?hr ?_; (case ho => rfl); (case hg => rfl); (case hn => rfl); (case hr => exact zgs); intro w38 hw; have hg : w36.grownBy w38 (some go29) := (by rw [hw]; exact HP37.2); have hp_ : Kd.R k91 91 w38 w.heap.size (fun _ => True) (.slice (some ⟨go29, 0, none⟩) x370002_1.length co35) y374 := (by rw [hw, Ny374.out]; exact HP37.1); clear HP37; have n_ : _ ∧ _ ∧ _ ∧ _ ∧ _ := ⟨Aside0.mk (hp_), Aside0.mk (blk_grown (g := gb356) (o := .cells #[.int .i8 a0_0, .int .i8 a0_1, .slice A0_2 l0_2.length c0_2] 37 (0, 0)) (zh BK356).out hg (Kd.R_ne HO_370002.out BK356.out (by decide))), Aside0.mk (blk_grown (g := gb357) (o := .cells #[.int .i8 x358000_1, .int .i8 x358001_1, .slice none 0 0] 37 (0, 0)) (zh BK357).out hg (Kd.R_ne HO_370002.out BK357.out (by decide))), Aside0.mk (blk_grown (g := gb369) (o := .cells #[.int .i8 t364, .int .i8 t365, .slice (some ⟨go29, 0, none⟩) x370002_1.length co35] 37 (0, 0)) (zh BK369).out hg (Kd.R_ne HO_370002.out BK369.out (by decide))), Aside0.mk ((by rw [hw]; exact below_set (below_set (HB.out) GB29.out) GB29.out : Below w.heap.size w w38))⟩; clear HO_370002 BK356 BK357 BK369 HB; obtain ⟨HO_370002, BK356, BK357, BK369, HB⟩ := n_; clear hg hw hp_; have p375 : 0 ≤ (x33_1 : Int) := of_decide_eq_true zA; have q375 : x33_1 < (y374.length : Int) := (by have h_ : (x33_1 : Int) < ((x370002_1.length : Int) : Int) := of_decide_eq_true zA; first | (have e_ := (Kd.R_reads' HO_370002.out).1; omega) | simpa only [Ny374.out, List.length_set] using h_); have ql375 : ((x33_1 : Int) < ((x370002_1.length : Int) : Int)) = True := eq_true (of_decide_eq_true zA); obtain ⟨ad375, e375, hx375_0, hx375_1, hx375_2, hx375_3, hx375_4⟩ := at_T91 (Kd.R_reads' HO_370002.out).2.2 x33_1 p375 q375; obtain rfl : (⟨go29, 0, none⟩ : Addr) = ad375 := (by injection e375); (first | simp only [add_plain] at hx375_0 | simp only [add_at] at hx375_0 | simp only [Addr.add, Nat.zero_add] at hx375_0 | skip); (first | simp only [add_plain] at hx375_1 | simp only [add_at] at hx375_1 | simp only [Addr.add, Nat.zero_add] at hx375_1 | skip); (first | simp only [add_plain] at hx375_2 | simp only [add_at] at hx375_2 | simp only [Addr.add, Nat.zero_add] at hx375_2 | skip); (first | simp only [add_plain] at hx375_3 | simp only [add_at] at hx375_3 | simp only [Addr.add, Nat.zero_add] at hx375_3 | skip); (first | simp only [add_plain] at hx375_4 | simp only [add_at] at hx375_4 | simp only [Addr.add, Nat.zero_add] at hx375_4 | skip); replace p375 := eq_true p375; replace q375 := eq_true q375) | ((with_reducible refine gate_callee (f := 109) rfl ?_); refine goesL_ (some 54) rfl rfl Try.func109 (by kernel_rfl) rfl #[.pointer (some ⟨gb356, 0, none⟩), .agg #[.int .i8 ((rd_T91 y374 x33_1).f0.f0), .int .i8 ((rd_T91 y374 x33_1).f0.f1)]] rfl zm ?_; (with_reducible refine (impl_Board_has.calls _ [(⟨a0_0, a0_1, l0_2⟩ : S37)] ((rd_T91 y374 x33_1).f0.f0) ((rd_T91 y374 x33_1).f0.f1) true _ ?side1 A30.out).mono ?_); (case side1 => refine ro_of_blk (T := 37) (cs := #[.int .i8 a0_0, .int .i8 a0_1, .slice A0_2 l0_2.length c0_2]) (zh BK356).out ?_; exact k37_mk _ (⟨a0_0, a0_1, l0_2⟩ : S37) (by exact HC0_2.out) (by exact zcc HB HR0_2.out)); rintro e w39 ⟨rfl, hb⟩; refine ⟨_, rfl, ?_⟩; have n_ : _ ∧ _ ∧ _ ∧ _ ∧ _ := ⟨zr HO_370002 hb, zk BK356 hb, zk BK357 hb, zk BK369 hb, zbs hb⟩; clear HO_370002 BK356 BK357 BK369 HB; obtain ⟨HO_370002, BK356, BK357, BK369, HB⟩ := n_; (try clear hb); (try clear hb2); (try clear hk); (try clear hi)))
  go_roundg k1
  case measure => have := HK1.out; omega
  case rel => exact ⟨(wrap64 (x33_1 + 1)), (x358000_1), (x358001_1), (y374), (.slice (some ⟨go29, 0, none⟩) x370002_1.length co35), zi, H', ⟨by have := HK1.out; omega⟩, ze HO_370002, zh BK356, zh BK357, zh BK369, zba⟩
 replace c31 := Bool.eq_false_iff.mpr c31
 subst c31
 have H1 : (some (0, 0, ([] : List (S91)), 4)) = some (r1, r2, r3, r4) := by rw [if_neg (show ¬ (false = true) by decide)] at H; exact H
 clear H
 have H := H1
 clear H1
 simp only [Option.some.injEq, Prod.mk.injEq] at H
 obtain ⟨rfl, rfl, rfl, rfl⟩ := H
 have hnb40 := NB369_356.out
 have hnc40 := NB356_369.out
 have hnb41 := NB369_357.out
 have hnc41 := NB357_369.out
 obtain ⟨z42_0, z42_1, z42_2, y42_0, y42_1, y42_2⟩ := zB3 BK369
 obtain ⟨Ao43, co43, eo43⟩ := Kd.R_slice HO_370002.out
 subst eo43
 have p370 : 0 ≤ (x33_1 : Int) := of_decide_eq_true zA
 have q370 : x33_1 < (x370002_1.length : Int) := of_decide_eq_true zA
 obtain ⟨ad370, e370, hx370_0, hx370_1, hx370_2, hx370_3, hx370_4⟩ := at_T91 (Kd.R_reads' HO_370002.out).2.2 x33_1 p370 q370
 cases e370
 replace p370 := eq_true p370
 replace q370 := eq_true q370
 have p371 : 0 ≤ (x33_1 : Int) := of_decide_eq_true zA
 have q371 : x33_1 < (x370002_1.length : Int) := of_decide_eq_true zA
 obtain ⟨ad371, e371, hx371_0, hx371_1, hx371_2, hx371_3, hx371_4⟩ := at_T91 (Kd.R_reads' HO_370002.out).2.2 x33_1 p371 q371
 obtain rfl : ad370 = ad371 := (by injection e371)
 replace p371 := eq_true p371
 replace q371 := eq_true q371
 go_wp2_with (first | ((with_reducible refine gate_callee (f := 102) rfl ?_); refine goesL_ (some 47) rfl rfl Try.func102 (by kernel_rfl) rfl #[.agg #[.int .i8 ((rd_T91 x370002_1 x33_1).f0.f0), .int .i8 ((rd_T91 x370002_1 x33_1).f0.f1)], .int .i64 a1, .int .i64 a2] rfl zm ?_; (with_reducible refine (impl_Cell_shifted.calls ((rd_T91 x370002_1 x33_1).f0.f0) ((rd_T91 x370002_1 x33_1).f0.f1) a1 a2 t372 t373 _ A28.out).mono ?_); rintro e w44 ⟨rfl, hb⟩; refine ⟨_, rfl, ?_⟩; have n_ : _ ∧ _ ∧ _ ∧ _ ∧ _ := ⟨zr HO_370002 hb, zk BK356 hb, zk BK357 hb, zk BK369 hb, zbs hb⟩; clear HO_370002 BK356 BK357 BK369 HB; obtain ⟨HO_370002, BK356, BK357, BK369, HB⟩ := n_; (try clear hb); (try clear hb2); (try clear hk); (try clear hi); have p29 : 0 ≤ (x33_1 : Int) := of_decide_eq_true zA; have q29 : (x33_1 : Int) < ((x370002_1.length : Int) : Int) := of_decide_eq_true zA; obtain ⟨go29, co29, eo29, gb29, gl29, cl29, HG29⟩ := Kd.R_form HO_370002.out (by omega); (first | cases eo29 | (injection eo29 with ea_ en_ ec_; (first | subst ea_ | (injection ea_ with ea_; subst ea_)); subst ec_; clear en_)); have GB29 := Aside0.mk gb29; have GG29 := Aside0.mk HG29; clear gb29 gl29 HG29; (first | simp only [add_plain] at hx370_0 | skip); (first | simp only [add_plain] at hx370_1 | skip); (first | simp only [add_plain] at hx370_2 | skip); (first | simp only [add_plain] at hx370_3 | skip); (first | simp only [add_plain] at hx370_4 | skip); (first | simp only [add_plain] at hx371_0 | skip); (first | simp only [add_plain] at hx371_1 | skip); (first | simp only [add_plain] at hx371_2 | skip); (first | simp only [add_plain] at hx371_3 | skip); (first | simp only [add_plain] at hx371_4 | skip); obtain ⟨ce29, hcl29, hM29, hcc29, hfr29⟩ := Kd.R_elem HO_370002.out z91 (x33_1 : Int) p29 q29; obtain rfl := k91_openM hM29; have hx29_0 : w44.cell? ⟨go29, (x33_1 : Int).toNat * 5, none⟩ = some (.int .i8 ((rd_T91 x370002_1 x33_1).f0.f0)) := hcc29 0 _ rfl; have hx29_1 : w44.cell? ⟨go29, (x33_1 : Int).toNat * 5 + 1, none⟩ = some (.int .i8 ((rd_T91 x370002_1 x33_1).f0.f1)) := hcc29 1 _ rfl; have hx29_2 : w44.cell? ⟨go29, (x33_1 : Int).toNat * 5 + 2, none⟩ = some (.int .i8 ((rd_T91 x370002_1 x33_1).f1)) := hcc29 2 _ rfl; have hx29_3 : w44.cell? ⟨go29, (x33_1 : Int).toNat * 5 + 3, none⟩ = some (.int .i8 ((rd_T91 x370002_1 x33_1).f2)) := hcc29 3 _ rfl; have hx29_4 : w44.cell? ⟨go29, (x33_1 : Int).toNat * 5 + 4, none⟩ = some (.int .i8 ((rd_T91 x370002_1 x33_1).f3)) := hcc29 4 _ rfl; have hf29_0 : w44.frozen? ⟨go29, (x33_1 : Int).toNat * 5, none⟩ = false := hfr29 0; have hf29_1 : w44.frozen? ⟨go29, (x33_1 : Int).toNat * 5 + 1, none⟩ = false := hfr29 1; have hf29_2 : w44.frozen? ⟨go29, (x33_1 : Int).toNat * 5 + 2, none⟩ = false := hfr29 2; have hf29_3 : w44.frozen? ⟨go29, (x33_1 : Int).toNat * 5 + 3, none⟩ = false := hfr29 3; have hf29_4 : w44.frozen? ⟨go29, (x33_1 : Int).toNat * 5 + 4, none⟩ = false := hfr29 4; clear hcl29 hcc29 hfr29 hM29; replace p29 := eq_true p29; replace q29 := eq_true q29; have HX45 := Aside0.mk (show Kd.R k91 91 w44 w.heap.size (fun _ => True) (.slice (some ⟨go29, 0, none⟩) x370002_1.length co43) x370002_1 from (ze HO_370002).out); obtain ⟨ce45, hcl45, hM45, hcc45, hfr45⟩ := Kd.R_elem HX45.out z91 (x33_1 : Int) (of_decide_eq_true zA) (zlt (x33_1 : Int) (x370002_1.length : Int) (Kd.R_reads' HO_370002.out).1); obtain rfl := k91_openM hM45; have HP45 := Kd.R_seg HX45.out (x33_1 : Int) (of_decide_eq_true zA) (zlt (x33_1 : Int) (x370002_1.length : Int) (Kd.R_reads' HO_370002.out).1) (seg := [.int .i8 t372, .int .i8 t373]) (j := 0) hcl45 hcc45 (show 2 ≤ 5 from by decide) (x' := (⟨(⟨t372, t373⟩ : S74), (rd_T91 x370002_1 x33_1).f1, (rd_T91 x370002_1 x33_1).f2, (rd_T91 x370002_1 x33_1).f3⟩ : S91)) (k91_mkM _ _ _ (⟨(⟨t372, t373⟩ : S74), (rd_T91 x370002_1 x33_1).f1, (rd_T91 x370002_1 x33_1).f2, (rd_T91 x370002_1 x33_1).f3⟩ : S91) ) (fun _ hk => hk); have hx45_0 := hcc45 0 _ rfl; (try simp only [show (k91).sz = 5 from rfl, Nat.mul_one, Nat.add_zero] at hx45_0); have hf45_0 := hfr45 0; (try simp only [show (k91).sz = 5 from rfl, Nat.mul_one, Nat.add_zero] at hf45_0); have hx45_1 := hcc45 1 _ rfl; (try simp only [show (k91).sz = 5 from rfl, Nat.mul_one, Nat.add_zero] at hx45_1); have hf45_1 := hfr45 1; (try simp only [show (k91).sz = 5 from rfl, Nat.mul_one, Nat.add_zero] at hf45_1); clear hcl45 hcc45 hfr45 hM45) | ((with_reducible refine gate_store (t := 74) (p := 49) rfl ?_); refine store_event (t := 74) (p := 49) (v := ?vo_w46) (w1 := ((w44.setCell ⟨go29, (x33_1 : Int).toNat * 5, none⟩ (.int .i8 t372)).setCell ⟨go29, (x33_1 : Int).toNat * 5 + 1, none⟩ (.int .i8 t373))) ?hg ?ho ?hn ?hr ?_; (case ho => rfl); (case hg => rfl); (case hn => rfl); (case hr => exact zgs); intro w46 hw; have hg : w44.grownBy w46 (some go29) := (by rw [hw]; exact HP45.2); have hp_ : Kd.R k91 91 w46 w.heap.size (fun _ => True) (.slice (some ⟨go29, 0, none⟩) x370002_1.length co43) y374 := (by rw [hw, Ny374.out]; exact HP45.1); clear HP45; have n_ : _ ∧ _ ∧ _ ∧ _ ∧ _ := ⟨Aside0.mk (hp_), Aside0.mk (blk_grown (g := gb356) (o := .cells #[.int .i8 a0_0, .int .i8 a0_1, .slice A0_2 l0_2.length c0_2] 37 (0, 0)) (zh BK356).out hg (Kd.R_ne HO_370002.out BK356.out (by decide))), Aside0.mk (blk_grown (g := gb357) (o := .cells #[.int .i8 x358000_1, .int .i8 x358001_1, .slice none 0 0] 37 (0, 0)) (zh BK357).out hg (Kd.R_ne HO_370002.out BK357.out (by decide))), Aside0.mk (blk_grown (g := gb369) (o := .cells #[.int .i8 t364, .int .i8 t365, .slice (some ⟨go29, 0, none⟩) x370002_1.length co43] 37 (0, 0)) (zh BK369).out hg (Kd.R_ne HO_370002.out BK369.out (by decide))), Aside0.mk ((by rw [hw]; exact below_set (below_set (HB.out) GB29.out) GB29.out : Below w.heap.size w w46))⟩; clear HO_370002 BK356 BK357 BK369 HB; obtain ⟨HO_370002, BK356, BK357, BK369, HB⟩ := n_; clear hg hw hp_; have p375 : 0 ≤ (x33_1 : Int) := of_decide_eq_true zA; have q375 : x33_1 < (y374.length : Int) := (by have h_ : (x33_1 : Int) < ((x370002_1.length : Int) : Int) := of_decide_eq_true zA; first | (have e_ := (Kd.R_reads' HO_370002.out).1; omega) | simpa only [Ny374.out, List.length_set] using h_); have ql375 : ((x33_1 : Int) < ((x370002_1.length : Int) : Int)) = True := eq_true (of_decide_eq_true zA); obtain ⟨ad375, e375, hx375_0, hx375_1, hx375_2, hx375_3, hx375_4⟩ := at_T91 (Kd.R_reads' HO_370002.out).2.2 x33_1 p375 q375; obtain rfl : (⟨go29, 0, none⟩ : Addr) = ad375 := (by injection e375); (first | simp only [add_plain] at hx375_0 | simp only [add_at] at hx375_0 | simp only [Addr.add, Nat.zero_add] at hx375_0 | skip); (first | simp only [add_plain] at hx375_1 | simp only [add_at] at hx375_1 | simp only [Addr.add, Nat.zero_add] at hx375_1 | skip); (first | simp only [add_plain] at hx375_2 | simp only [add_at] at hx375_2 | simp only [Addr.add, Nat.zero_add] at hx375_2 | skip); (first | simp only [add_plain] at hx375_3 | simp only [add_at] at hx375_3 | simp only [Addr.add, Nat.zero_add] at hx375_3 | skip); (first | simp only [add_plain] at hx375_4 | simp only [add_at] at hx375_4 | simp only [Addr.add, Nat.zero_add] at hx375_4 | skip); replace p375 := eq_true p375; replace q375 := eq_true q375) | ((with_reducible refine gate_callee (f := 109) rfl ?_); refine goesL_ (some 54) rfl rfl Try.func109 (by kernel_rfl) rfl #[.pointer (some ⟨gb356, 0, none⟩), .agg #[.int .i8 ((rd_T91 y374 x33_1).f0.f0), .int .i8 ((rd_T91 y374 x33_1).f0.f1)]] rfl zm ?_; (with_reducible refine (impl_Board_has.calls _ [(⟨a0_0, a0_1, l0_2⟩ : S37)] ((rd_T91 y374 x33_1).f0.f0) ((rd_T91 y374 x33_1).f0.f1) false _ ?side1 A30.out).mono ?_); (case side1 => refine ro_of_blk (T := 37) (cs := #[.int .i8 a0_0, .int .i8 a0_1, .slice A0_2 l0_2.length c0_2]) (zh BK356).out ?_; exact k37_mk _ (⟨a0_0, a0_1, l0_2⟩ : S37) (by exact HC0_2.out) (by exact zcc HB HR0_2.out)); rintro e w47 ⟨rfl, hb⟩; refine ⟨_, rfl, ?_⟩; have n_ : _ ∧ _ ∧ _ ∧ _ ∧ _ := ⟨zr HO_370002 hb, zk BK356 hb, zk BK357 hb, zk BK369 hb, zbs hb⟩; clear HO_370002 BK356 BK357 BK369 HB; obtain ⟨HO_370002, BK356, BK357, BK369, HB⟩ := n_; (try clear hb); (try clear hb2); (try clear hk); (try clear hi); have hnb48 := NB357_356.out; have hnc48 := NB356_357.out; obtain ⟨z49_0, z49_1, z49_2, y49_0, y49_1, y49_2⟩ := zB3 BK357))
 refine bodyPost_ret (results_ct rfl _ _ gb357 37 #[.int .i8 0, .int .i8 0, .slice none 0 0] (0, 0) _ rfl (zp BK357) Try.underlying37 rfl (by kernel_rfl)) rfl ?_
 exact ⟨_, zv, by first | exact Kd.R_nil _ _ _ _ _ | exact Kd.N_nil _ _ _ _ _ | exact Kd.V_nil _ _ _ _ _ | exact Kd.Q_nil _ _ _ _ _ | exact Kd.S_nil _ _ _ _ _, zbo⟩
-- NOT PRINTED: function 170 (impl_Piece_170)

def impl_Board_at_1.f (a0_0 : Int) (a0_1 : Int) (a0_2 : Int) (a0_3 : Int) (a0_4 : Int) (l1 : List (S74)) : Option (Bool) := if 0 < (l1.length : Int) then (some (a0_0 == ((rd_T74 l1 0).f0) && (a0_1 == ((rd_T74 l1 0).f1)))) else (none)
theorem impl_Board_at_1.calls (a0_0 : Int) (a0_1 : Int) (a0_2 : Int) (a0_3 : Int) (a0_4 : Int) (adp1 : Addr) (l1 : List (S74)) (r : Bool) (w : World) (hr1 : Kd.C k74 w (some adp1) l1.length l1) (h : impl_Board_at_1.f a0_0 a0_1 a0_2 a0_3 a0_4 l1 = some r) :
    Calls Try.prog 171 #[.agg #[.int .i8 a0_0, .int .i8 a0_1, .int .i8 a0_2, .int .i8 a0_3, .int .i8 a0_4], .pointer (some adp1)] w fun e w' => e = .returned (.bool r) ∧ Below w.heap.size w w' := by
 have hu91 := Try.underlying91
 have hu74 := Try.underlying74
 have HR1 := Aside0.mk hr1
 clear hr1
 have HB := Aside0.mk (Below.refl w.heap.size w)
 have H : (if 0 < (l1.length : Int) then (some (a0_0 == ((rd_T74 l1 0).f0) && (a0_1 == ((rd_T74 l1 0).f1)))) else (none)) = some r := h
 clear h
 by_cases c3 : 0 < (l1.length : Int)
 rotate_left
 ·rw [if_neg c3] at H
  exact absurd H (by simp)
 rw [if_pos c3] at H
 have c3b0 : decide (0 < (l1.length : Int)) = true := decide_eq_true c3
 have c3b1 : decide (0 < l1.length) = true := decide_eq_true (by omega)
 clear c3
 obtain rfl := Option.some.inj H
 go_enter Try.func171, Try.ntmps171
 go_wp2_with (first | ((with_reducible refine gate_dst (N := 2) rfl ?_); refine zbx 2 #[.int .i8 a0_0, .int .i8 a0_1, .int .i8 a0_2, .int .i8 a0_3, .int .i8 a0_4] 91 ?_; intro gb377 hg w4 hbox hb; have n_ : _ ∧ _ ∧ _ ∧ _ := ⟨zb HB hb, Aside0.mk (hbox), zg HB hg, zg HB hg⟩; clear HB; obtain ⟨HB, BK377, GW377, GE377⟩ := n_; clear hb hbox hg; obtain ⟨z5_0, z5_1, z5_2, z5_3, z5_4, y5_0, y5_1, y5_2, y5_3, y5_4⟩ := zB5 BK377; have p378 : 0 ≤ (0 : Int) := (by omega); have q378 : 0 < (l1.length : Int) := of_decide_eq_true zA; obtain ⟨ad378, e378, hx378_0, hx378_1⟩ := at_T74 HR1.out 0 p378 q378; obtain rfl : adp1 = ad378 := (by injection e378); have qi378 : (0 < l1.length) = True := eq_true (by omega); (try simp only [z00, Nat.zero_mul, Addr.add_zero'] at hx378_0 hx378_1); replace hx378_0 := zc HB hx378_0; replace hx378_1 := zc HB hx378_1; replace p378 := eq_true p378; replace q378 := eq_true q378))
 go_ret
 exact ⟨zv, zbo⟩
def slices_IndexFunc__impl_Board_at_1.l0 : Nat → List (S91) → Int → Int → List (S74) → Option (Int)
  | 0, _, _, _, _ => none
  | k + 1, x0, x7, x8, x2000 => if x8 < x7 then (if 0 ≤ x8 then (if x8 < (x0.length : Int) then ((impl_Board_at_1.f ((rd_T91 x0 x8).f0.f0) ((rd_T91 x0 x8).f0.f1) ((rd_T91 x0 x8).f1) ((rd_T91 x0 x8).f2) ((rd_T91 x0 x8).f3) x2000).bind fun t380 => (if t380 = true then (some x8) else (slices_IndexFunc__impl_Board_at_1.l0 k x0 x7 (wrap64 (x8 + 1)) x2000))) else (none)) else (none)) else (some (-1))
def slices_IndexFunc__impl_Board_at_1.f (k : Nat) (l0 : List (S91)) (l1_0 : List (S74)) : Option (Int) := slices_IndexFunc__impl_Board_at_1.l0 k l0 (l0.length : Int) 0 l1_0
theorem slices_IndexFunc__impl_Board_at_1.mono_l : ∀ k, (∀ y0 y1 y2 y3, LeO (slices_IndexFunc__impl_Board_at_1.l0 k y0 y1 y2 y3) (slices_IndexFunc__impl_Board_at_1.l0 (k + 1) y0 y1 y2 y3))
  | 0 => fun _ _ _ _ r h => by simp [slices_IndexFunc__impl_Board_at_1.l0] at h
  | k + 1 => by
    have ih0 := slices_IndexFunc__impl_Board_at_1.mono_l k
    · intro y0 y1 y2 y3
      unfold slices_IndexFunc__impl_Board_at_1.l0
      repeat' first | (with_reducible first | apply ih0 | exact LeO.refl _ | exact LeO.none _ | refine LeO.ite ?_ ?_ | refine LeO.bind ?_ (fun _ => ?_)) | apply ih0 | exact LeO.none _ | refine LeO.ite ?_ ?_ | refine LeO.bind ?_ (fun _ => ?_)
theorem slices_IndexFunc__impl_Board_at_1.mono : ∀ a0 a1 k, LeO (slices_IndexFunc__impl_Board_at_1.f k a0 a1) (slices_IndexFunc__impl_Board_at_1.f (k + 1) a0 a1) := by
 intro a0 a1 k
 have ih0 := slices_IndexFunc__impl_Board_at_1.mono_l k
 unfold slices_IndexFunc__impl_Board_at_1.f
 repeat' first | (with_reducible first | apply ih0 | exact LeO.refl _ | exact LeO.none _ | refine LeO.ite ?_ ?_ | refine LeO.bind ?_ (fun _ => ?_)) | apply ih0 | exact LeO.none _ | refine LeO.ite ?_ ?_ | refine LeO.bind ?_ (fun _ => ?_)
theorem slices_IndexFunc__impl_Board_at_1.calls (k : Nat) (A0 : Option Addr) (c0 : Nat) (l0 : List (S91)) (adp1_0 : Addr) (l1_0 : List (S74)) (r : Int) (w : World) (hr0 : Kd.C k91 w A0 l0.length l0) (hc0 : l0.length ≤ c0) (hr1_0 : Kd.C k74 w (some adp1_0) l1_0.length l1_0) (h : slices_IndexFunc__impl_Board_at_1.f k l0 l1_0 = some r) :
    Calls Try.prog 170 #[.slice A0 l0.length c0, .func (.func 171) #[] #[.pointer (some adp1_0)]] w fun e w' => e = .returned (.int .i64 r) ∧ Below w.heap.size w w' := by
 have hu91 := Try.underlying91
 have HR0 := Aside0.mk hr0
 have HC0 := Aside0.mk hc0
 clear hr0 hc0
 have HR1_0 := Aside0.mk hr1_0
 clear hr1_0
 have HB := Aside0.mk (Below.refl w.heap.size w)
 have H : (slices_IndexFunc__impl_Board_at_1.l0 k l0 (l0.length : Int) 0 l1_0) = some r := h
 clear h
 have H' := Aside0.mk H
 clear H
 go_enter Try.func170, Try.ntmps170
 go_wp2
 go_loopg [8] k (fun kq v8 w' => ∃ (x8_1 : Int), v8 = .int .i64 x8_1 ∧ Aside0 (slices_IndexFunc__impl_Board_at_1.l0 kq l0 (l0.length : Int) x8_1 l1_0 = some r) ∧ Aside0 (kq ≤ k) ∧ Aside0 (Below w.heap.size w w'))
 case atStart => exact ⟨(0), zi, H', ⟨Nat.le_refl _⟩, zl HB⟩
 clear H'
 try clear c2
 try clear p2
 obtain ⟨x8_1, rfl, HA, HK1, HB⟩ := hrel
 cases gk with
 | zero => exact absurd HA.out (by simp [slices_IndexFunc__impl_Board_at_1.l0])
 | succ k1 => ?_
 have H := HA.out
 clear HA
 simp only [slices_IndexFunc__impl_Board_at_1.l0] at H
 by_cases c3 : x8_1 < (l0.length : Int)
 rotate_left
 ·rw [if_neg c3] at H
  have c3b0 : decide (x8_1 < (l0.length : Int)) = false := decide_eq_false c3
  clear c3
  obtain rfl := Option.some.inj H
  go_wp2
  go_ret
  exact ⟨zv, zbo⟩
 rw [if_pos c3] at H
 have c3b0 : decide (x8_1 < (l0.length : Int)) = true := decide_eq_true c3
 clear c3
 by_cases c4 : 0 ≤ x8_1
 rotate_left
 ·rw [if_neg c4] at H
  exact absurd H (by simp)
 rw [if_pos c4] at H
 have c4b0 : decide (0 ≤ x8_1) = true := decide_eq_true c4
 clear c4
 by_cases c5 : x8_1 < (l0.length : Int)
 rotate_left
 ·rw [if_neg c5] at H
  exact absurd H (by simp)
 rw [if_pos c5] at H
 have c5b0 : decide (x8_1 < (l0.length : Int)) = true := decide_eq_true c5
 clear c5
 replace H := zob H
 obtain ⟨t380, A60, H⟩ := H
 replace H : (if t380 = true then (some x8_1) else (slices_IndexFunc__impl_Board_at_1.l0 k1 l0 (l0.length : Int) (wrap64 (x8_1 + 1)) l1_0)) = some r := H
 have A6 := Aside0.mk A60
 clear A60
 by_cases c7 : t380 = true
 ·subst c7
  have H1 : (some x8_1) = some r := by rw [if_pos rfl] at H; exact H
  clear H
  have H := H1
  clear H1
  obtain rfl := Option.some.inj H
  have p379 : 0 ≤ (x8_1 : Int) := of_decide_eq_true zA
  have q379 : x8_1 < (l0.length : Int) := of_decide_eq_true zA
  obtain ⟨ad379, e379, hx379_0, hx379_1, hx379_2, hx379_3, hx379_4⟩ := at_T91 HR0.out x8_1 p379 q379
  cases e379
  replace hx379_0 := zc HB hx379_0
  replace hx379_1 := zc HB hx379_1
  replace hx379_2 := zc HB hx379_2
  replace hx379_3 := zc HB hx379_3
  replace hx379_4 := zc HB hx379_4
  replace p379 := eq_true p379
  replace q379 := eq_true q379
  go_wp2_with (first | (go_at_call 171; (with_reducible refine (impl_Board_at_1.calls ((rd_T91 l0 x8_1).f0.f0) ((rd_T91 l0 x8_1).f0.f1) ((rd_T91 l0 x8_1).f1) ((rd_T91 l0 x8_1).f2) ((rd_T91 l0 x8_1).f3) _ l1_0 true _ ?side1 A6.out).mono ?_); (case side1 => exact zcc HB HR1_0.out); rintro e w8 ⟨rfl, hb⟩; have n0_ := zb HB hb; clear HB; have HB := n0_; clear n0_; (try clear hb); (try clear hb2); (try clear hk); (try clear hi)))
  go_ret
  exact ⟨zv, zbo⟩
 replace c7 := Bool.eq_false_iff.mpr c7
 subst c7
 have H1 : (slices_IndexFunc__impl_Board_at_1.l0 k1 l0 (l0.length : Int) (wrap64 (x8_1 + 1)) l1_0) = some r := by rw [if_neg (show ¬ (false = true) by decide)] at H; exact H
 clear H
 have H := H1
 clear H1
 have H' := Aside0.mk H
 clear H
 have p379 : 0 ≤ (x8_1 : Int) := of_decide_eq_true zA
 have q379 : x8_1 < (l0.length : Int) := of_decide_eq_true zA
 obtain ⟨ad379, e379, hx379_0, hx379_1, hx379_2, hx379_3, hx379_4⟩ := at_T91 HR0.out x8_1 p379 q379
 cases e379
 replace hx379_0 := zc HB hx379_0
 replace hx379_1 := zc HB hx379_1
 replace hx379_2 := zc HB hx379_2
 replace hx379_3 := zc HB hx379_3
 replace hx379_4 := zc HB hx379_4
 replace p379 := eq_true p379
 replace q379 := eq_true q379
 go_wp2_with (first | (go_at_call 171; (with_reducible refine (impl_Board_at_1.calls ((rd_T91 l0 x8_1).f0.f0) ((rd_T91 l0 x8_1).f0.f1) ((rd_T91 l0 x8_1).f1) ((rd_T91 l0 x8_1).f2) ((rd_T91 l0 x8_1).f3) _ l1_0 false _ ?side1 A6.out).mono ?_); (case side1 => exact zcc HB HR1_0.out); rintro e w9 ⟨rfl, hb⟩; have n0_ := zb HB hb; clear HB; have HB := n0_; clear n0_; (try clear hb); (try clear hb2); (try clear hk); (try clear hi)))
 go_roundg k1
 case measure => have := HK1.out; omega
 case rel => exact ⟨(wrap64 (x8_1 + 1)), zi, H', ⟨by have := HK1.out; omega⟩, zl HB⟩
def impl_Board_at.f (k : Nat) (l0 : List (S37)) (a1_0 : Int) (a1_1 : Int) : Option (Int) := if 0 < (l0.length : Int) then ((slices_IndexFunc__impl_Board_at_1.f k ((rd_T37 l0 0).f2) [(⟨a1_0, a1_1⟩ : S74)]).bind fun t383 => (some t383)) else (none)
theorem impl_Board_at.mono : ∀ a0 a1 a2 k, LeO (impl_Board_at.f k a0 a1 a2) (impl_Board_at.f (k + 1) a0 a1 a2) := by
 intro a0 a1 a2 k
 unfold impl_Board_at.f
 repeat' first | (with_reducible first | apply slices_IndexFunc__impl_Board_at_1.mono | exact LeO.refl _ | exact LeO.none _ | refine LeO.ite ?_ ?_ | refine LeO.bind ?_ (fun _ => ?_)) | apply slices_IndexFunc__impl_Board_at_1.mono | exact LeO.none _ | refine LeO.ite ?_ ?_ | refine LeO.bind ?_ (fun _ => ?_)
theorem impl_Board_at.calls (k : Nat) (adp0 : Addr) (l0 : List (S37)) (a1_0 : Int) (a1_1 : Int) (r : Int) (w : World) (hr0 : Kd.C k37 w (some adp0) l0.length l0) (h : impl_Board_at.f k l0 a1_0 a1_1 = some r) :
    Calls Try.prog 119 #[.pointer (some adp0), .agg #[.int .i8 a1_0, .int .i8 a1_1]] w fun e w' => e = .returned (.int .i64 r) ∧ Below w.heap.size w w' := by
 have hu74 := Try.underlying74
 have HR0 := Aside0.mk hr0
 clear hr0
 have HB := Aside0.mk (Below.refl w.heap.size w)
 have H : (if 0 < (l0.length : Int) then ((slices_IndexFunc__impl_Board_at_1.f k ((rd_T37 l0 0).f2) [(⟨a1_0, a1_1⟩ : S74)]).bind fun t383 => (some t383)) else (none)) = some r := h
 clear h
 by_cases c3 : 0 < (l0.length : Int)
 rotate_left
 ·rw [if_neg c3] at H
  exact absurd H (by simp)
 rw [if_pos c3] at H
 have c3b0 : decide (0 < (l0.length : Int)) = true := decide_eq_true c3
 have c3b1 : decide (0 < l0.length) = true := decide_eq_true (by omega)
 clear c3
 replace H := zob H
 obtain ⟨t383, A40, H⟩ := H
 replace H : (some t383) = some r := H
 have A4 := Aside0.mk A40
 clear A40
 obtain rfl := Option.some.inj H
 go_enter Try.func119, Try.ntmps119
 go_wp2_with (first | ((with_reducible refine gate_dst (N := 3) rfl ?_); refine zbx 3 #[.int .i8 a1_0, .int .i8 a1_1] 74 ?_; intro gb381 hg w5 hbox hb; have n_ : _ ∧ _ ∧ _ ∧ _ := ⟨zb HB hb, Aside0.mk (hbox), zg HB hg, zg HB hg⟩; clear HB; obtain ⟨HB, BK381, GW381, GE381⟩ := n_; clear hb hbox hg; have p382 : 0 ≤ (0 : Int) := (by omega); have q382 : 0 < (l0.length : Int) := of_decide_eq_true zA; obtain ⟨ad382, A382_2, c382_2, e382, hx382_0, hx382_1, hx382_2, hl382_2, hi382_2⟩ := at_T37 HR0.out 0 p382 q382; obtain rfl : adp0 = ad382 := (by injection e382); have qi382 : (0 < l0.length) = True := eq_true (by omega); (try simp only [z00, Nat.zero_mul, Addr.add_zero'] at hx382_0 hx382_1 hx382_2); replace hx382_0 := zc HB hx382_0; replace hx382_1 := zc HB hx382_1; replace hx382_2 := zc HB hx382_2; have HR382_2 := Aside0.mk hi382_2; have HC382_2 := Aside0.mk hl382_2; clear hi382_2 hl382_2; replace p382 := eq_true p382; replace q382 := eq_true q382) | ((with_reducible refine gate_callee (f := 170) rfl ?_); refine goesL_ (some 10) rfl rfl Try.func170 (by kernel_rfl) rfl #[.slice A382_2 ((rd_T37 l0 0).f2).length c382_2, .func (.func 171) #[] #[.pointer (some ⟨gb381, 0, none⟩)]] rfl zm ?_; (with_reducible refine (slices_IndexFunc__impl_Board_at_1.calls k _ _ ((rd_T37 l0 0).f2) _ [(⟨a1_0, a1_1⟩ : S74)] t383 _ ?side1 ?side2 ?side3 A4.out).mono ?_); (case side1 => exact zcc HB HR382_2.out); (case side2 => exact HC382_2.out); (case side3 => refine ro_of_blk (T := 74) (cs := #[.int .i8 a1_0, .int .i8 a1_1]) (zh BK381).out ?_; exact k74_mk _ (⟨a1_0, a1_1⟩ : S74) ); rintro e w6 ⟨rfl, hb⟩; refine ⟨_, rfl, ?_⟩; have n_ : _ ∧ _ := ⟨zk BK381 hb, zbs hb⟩; clear BK381 HB; obtain ⟨BK381, HB⟩ := n_; (try clear hb); (try clear hb2); (try clear hk); (try clear hi)))
 go_ret
 exact ⟨zv, zbo⟩
def impl_isSide.f (a0 : Int) : Option (Bool) := (impl_in.f a0 0 3).bind fun t384 => (some t384)
theorem impl_isSide.calls (a0 : Int) (r : Bool) (w : World) (h : impl_isSide.f a0 = some r) :
    Calls Try.prog 146 #[.int .i64 a0] w fun e w' => e = .returned (.bool r) ∧ Drawn0 w w' := by
 have H : ((impl_in.f a0 0 3).bind fun t384 => (some t384)) = some r := h
 clear h
 replace H := zob H
 obtain ⟨t384, A20, H⟩ := H
 replace H : (some t384) = some r := H
 have A2 := Aside0.mk A20
 clear A20
 obtain rfl := Option.some.inj H
 go_enter Try.func146, Try.ntmps146
 go_wp2_with (first | ((with_reducible refine gate_callee (f := 98) rfl ?_); refine goesL_ (some 4) rfl rfl Try.func98 (by kernel_rfl) rfl #[.int .i64 a0, .int .i64 0, .int .i64 3] rfl zm ?_; (with_reducible refine (impl_in.calls a0 0 3 t384 _ A2.out).mono ?_); rintro e w' ⟨rfl, ⟨nd, rfl⟩⟩; refine ⟨_, rfl, ?_⟩))
 go_ret
 exact ⟨zi, zdr⟩
def impl_Port_180.l0 : Nat → List (S116) → Int → Int → Int → Int → Int → Option (Int)
  | 0, _, _, _, _, _, _ => none
  | k + 1, x0, x7, x8, x386000, x386001, x386002 => if x8 < x7 then (if 0 ≤ x8 then (if x8 < (x0.length : Int) then (if ((x386000 == ((rd_T116 x0 x8).f0.f0) && (x386001 == ((rd_T116 x0 x8).f0.f1))) && (x386002 == ((rd_T116 x0 x8).f1))) = true then (some x8) else (impl_Port_180.l0 k x0 x7 (wrap64 (x8 + 1)) x386000 x386001 x386002)) else (none)) else (none)) else (some (-1))
def impl_Port_180.f (k : Nat) (l0 : List (S116)) (a1_0 : Int) (a1_1 : Int) (a1_2 : Int) : Option (Int) := impl_Port_180.l0 k l0 (l0.length : Int) 0 a1_0 a1_1 a1_2
theorem impl_Port_180.mono_l : ∀ k, (∀ y0 y1 y2 y3 y4 y5, LeO (impl_Port_180.l0 k y0 y1 y2 y3 y4 y5) (impl_Port_180.l0 (k + 1) y0 y1 y2 y3 y4 y5))
  | 0 => fun _ _ _ _ _ _ r h => by simp [impl_Port_180.l0] at h
  | k + 1 => by
    have ih0 := impl_Port_180.mono_l k
    · intro y0 y1 y2 y3 y4 y5
      unfold impl_Port_180.l0
      repeat' first | (with_reducible first | apply ih0 | exact LeO.refl _ | exact LeO.none _ | refine LeO.ite ?_ ?_ | refine LeO.bind ?_ (fun _ => ?_)) | apply ih0 | exact LeO.none _ | refine LeO.ite ?_ ?_ | refine LeO.bind ?_ (fun _ => ?_)
theorem impl_Port_180.mono : ∀ a0 a1 a2 a3 k, LeO (impl_Port_180.f k a0 a1 a2 a3) (impl_Port_180.f (k + 1) a0 a1 a2 a3) := by
 intro a0 a1 a2 a3 k
 have ih0 := impl_Port_180.mono_l k
 unfold impl_Port_180.f
 repeat' first | (with_reducible first | apply ih0 | exact LeO.refl _ | exact LeO.none _ | refine LeO.ite ?_ ?_ | refine LeO.bind ?_ (fun _ => ?_)) | apply ih0 | exact LeO.none _ | refine LeO.ite ?_ ?_ | refine LeO.bind ?_ (fun _ => ?_)
theorem impl_Port_180.calls (k : Nat) (A0 : Option Addr) (c0 : Nat) (l0 : List (S116)) (a1_0 : Int) (a1_1 : Int) (a1_2 : Int) (r : Int) (w : World) (hr0 : Kd.C k116 w A0 l0.length l0) (hc0 : l0.length ≤ c0) (h : impl_Port_180.f k l0 a1_0 a1_1 a1_2 = some r) :
    Calls Try.prog 180 #[.slice A0 l0.length c0, .agg #[.int .i8 a1_0, .int .i8 a1_1, .int .i8 a1_2]] w fun e w' => e = .returned (.int .i64 r) ∧ Below w.heap.size w w' := by
 have hu116 := Try.underlying116
 have HR0 := Aside0.mk hr0
 have HC0 := Aside0.mk hc0
 clear hr0 hc0
 have HB := Aside0.mk (Below.refl w.heap.size w)
 have H : (impl_Port_180.l0 k l0 (l0.length : Int) 0 a1_0 a1_1 a1_2) = some r := h
 clear h
 have H' := Aside0.mk H
 clear H
 go_enter Try.func180, Try.ntmps180
 go_wp2_with (first | ((with_reducible refine gate_dst (N := 3) rfl ?_); refine zbx 3 #[.int .i8 a1_0, .int .i8 a1_1, .int .i8 a1_2] 116 ?_; intro gb385 hg w3 hbox hb; have n_ : _ ∧ _ ∧ _ ∧ _ := ⟨zb HB hb, Aside0.mk (hbox), zg HB hg, zg HB hg⟩; clear HB; obtain ⟨HB, BK385, GW385, GE385⟩ := n_; clear hb hbox hg) | go_quiet (fail))
 go_loopg [8] k (fun kq v8 w' => ∃ (x8_1 : Int), v8 = .int .i64 x8_1 ∧ Aside0 (impl_Port_180.l0 kq l0 (l0.length : Int) x8_1 a1_0 a1_1 a1_2 = some r) ∧ Aside0 (kq ≤ k) ∧ Aside0 (w'.heap[gb385]? = some (.cells #[.int .i8 a1_0, .int .i8 a1_1, .int .i8 a1_2] 116 (0, 0))) ∧ Aside0 (Below w.heap.size w w'))
 case atStart => exact ⟨(0), zi, H', ⟨Nat.le_refl _⟩, zh BK385, zba⟩
 clear H'
 try clear c1
 try clear p2
 obtain ⟨x8_1, rfl, HA, HK1, BK385, HB⟩ := hrel
 cases gk with
 | zero => exact absurd HA.out (by simp [impl_Port_180.l0])
 | succ k1 => ?_
 have H := HA.out
 clear HA
 simp only [impl_Port_180.l0] at H
 by_cases c4 : x8_1 < (l0.length : Int)
 rotate_left
 ·rw [if_neg c4] at H
  have c4b0 : decide (x8_1 < (l0.length : Int)) = false := decide_eq_false c4
  clear c4
  obtain rfl := Option.some.inj H
  go_wp2
  repeat (go_quiet (fail); try go_wp2)
  go_ret
  exact ⟨zv, zbo⟩
 rw [if_pos c4] at H
 have c4b0 : decide (x8_1 < (l0.length : Int)) = true := decide_eq_true c4
 clear c4
 by_cases c5 : 0 ≤ x8_1
 rotate_left
 ·rw [if_neg c5] at H
  exact absurd H (by simp)
 rw [if_pos c5] at H
 have c5b0 : decide (0 ≤ x8_1) = true := decide_eq_true c5
 clear c5
 by_cases c6 : x8_1 < (l0.length : Int)
 rotate_left
 ·rw [if_neg c6] at H
  exact absurd H (by simp)
 rw [if_pos c6] at H
 have c6b0 : decide (x8_1 < (l0.length : Int)) = true := decide_eq_true c6
 clear c6
 by_cases c7 : ((a1_0 == ((rd_T116 l0 x8_1).f0.f0) && (a1_1 == ((rd_T116 l0 x8_1).f0.f1))) && (a1_2 == ((rd_T116 l0 x8_1).f1))) = true
 rotate_left
 ·rw [if_neg c7] at H
  have c7b0 : ((a1_0 == ((rd_T116 l0 x8_1).f0.f0) && (a1_1 == ((rd_T116 l0 x8_1).f0.f1))) && (a1_2 == ((rd_T116 l0 x8_1).f1))) = false := by simpa using c7
  clear c7
  have H' := Aside0.mk H
  clear H
  obtain ⟨z9_0, z9_1, z9_2, y9_0, y9_1, y9_2⟩ := zB3 BK385
  have p386 : 0 ≤ (x8_1 : Int) := of_decide_eq_true zA
  have q386 : x8_1 < (l0.length : Int) := of_decide_eq_true zA
  obtain ⟨ad386, e386, hx386_0, hx386_1, hx386_2⟩ := at_T116 HR0.out x8_1 p386 q386
  cases e386
  replace hx386_0 := zc HB hx386_0
  replace hx386_1 := zc HB hx386_1
  replace hx386_2 := zc HB hx386_2
  replace p386 := eq_true p386
  replace q386 := eq_true q386
  go_wp2
  repeat (go_quiet (fail); try go_wp2)
  go_roundg k1
  case measure => have := HK1.out; omega
  case rel => exact ⟨(wrap64 (x8_1 + 1)), zi, H', ⟨by have := HK1.out; omega⟩, zh BK385, zba⟩
 rw [if_pos c7] at H
 have c7b0 : ((a1_0 == ((rd_T116 l0 x8_1).f0.f0) && (a1_1 == ((rd_T116 l0 x8_1).f0.f1))) && (a1_2 == ((rd_T116 l0 x8_1).f1))) = true := c7
 clear c7
 obtain rfl := Option.some.inj H
 obtain ⟨z8_0, z8_1, z8_2, y8_0, y8_1, y8_2⟩ := zB3 BK385
 have p386 : 0 ≤ (x8_1 : Int) := of_decide_eq_true zA
 have q386 : x8_1 < (l0.length : Int) := of_decide_eq_true zA
 obtain ⟨ad386, e386, hx386_0, hx386_1, hx386_2⟩ := at_T116 HR0.out x8_1 p386 q386
 cases e386
 replace hx386_0 := zc HB hx386_0
 replace hx386_1 := zc HB hx386_1
 replace hx386_2 := zc HB hx386_2
 replace p386 := eq_true p386
 replace q386 := eq_true q386
 go_wp2
 repeat (go_quiet (fail); try go_wp2)
 go_ret
 exact ⟨zv, zbo⟩
def impl_Port_147.f (k : Nat) (l0 : List (S116)) (a1_0 : Int) (a1_1 : Int) (a1_2 : Int) : Option (Bool) := (impl_Port_180.f k l0 a1_0 a1_1 a1_2).bind fun t388 => (some (decide (t388 ≥ 0)))
theorem impl_Port_147.mono : ∀ a0 a1 a2 a3 k, LeO (impl_Port_147.f k a0 a1 a2 a3) (impl_Port_147.f (k + 1) a0 a1 a2 a3) := by
 intro a0 a1 a2 a3 k
 unfold impl_Port_147.f
 repeat' first | (with_reducible first | apply impl_Port_180.mono | exact LeO.refl _ | exact LeO.none _ | refine LeO.ite ?_ ?_ | refine LeO.bind ?_ (fun _ => ?_)) | apply impl_Port_180.mono | exact LeO.none _ | refine LeO.ite ?_ ?_ | refine LeO.bind ?_ (fun _ => ?_)
theorem impl_Port_147.calls (k : Nat) (A0 : Option Addr) (c0 : Nat) (l0 : List (S116)) (a1_0 : Int) (a1_1 : Int) (a1_2 : Int) (r : Bool) (w : World) (hr0 : Kd.C k116 w A0 l0.length l0) (hc0 : l0.length ≤ c0) (h : impl_Port_147.f k l0 a1_0 a1_1 a1_2 = some r) :
    Calls Try.prog 147 #[.slice A0 l0.length c0, .agg #[.int .i8 a1_0, .int .i8 a1_1, .int .i8 a1_2]] w fun e w' => e = .returned (.bool r) ∧ Below w.heap.size w w' := by
 have hu116 := Try.underlying116
 have HR0 := Aside0.mk hr0
 have HC0 := Aside0.mk hc0
 clear hr0 hc0
 have HB := Aside0.mk (Below.refl w.heap.size w)
 have H : ((impl_Port_180.f k l0 a1_0 a1_1 a1_2).bind fun t388 => (some (decide (t388 ≥ 0)))) = some r := h
 clear h
 replace H := zob H
 obtain ⟨t388, A30, H⟩ := H
 replace H : (some (decide (t388 ≥ 0))) = some r := H
 have A3 := Aside0.mk A30
 clear A30
 obtain rfl := Option.some.inj H
 go_enter Try.func147, Try.ntmps147
 go_wp2_with (first | ((with_reducible refine gate_dst (N := 3) rfl ?_); refine zbx 3 #[.int .i8 a1_0, .int .i8 a1_1, .int .i8 a1_2] 116 ?_; intro gb387 hg w4 hbox hb; have n_ : _ ∧ _ ∧ _ ∧ _ := ⟨zb HB hb, Aside0.mk (hbox), zg HB hg, zg HB hg⟩; clear HB; obtain ⟨HB, BK387, GW387, GE387⟩ := n_; clear hb hbox hg; obtain ⟨z5_0, z5_1, z5_2, y5_0, y5_1, y5_2⟩ := zB3 BK387) | ((with_reducible refine gate_callee (f := 180) rfl ?_); refine goesL_ (some 7) rfl rfl Try.func180 (by kernel_rfl) rfl #[.slice A0 l0.length c0, .agg #[.int .i8 a1_0, .int .i8 a1_1, .int .i8 a1_2]] rfl zm ?_; (with_reducible refine (impl_Port_180.calls k _ _ l0 a1_0 a1_1 a1_2 t388 _ ?side1 ?side2 A3.out).mono ?_); (case side1 => exact zcc HB HR0.out); (case side2 => exact HC0.out); rintro e w6 ⟨rfl, hb⟩; refine ⟨_, rfl, ?_⟩; have n_ : _ ∧ _ := ⟨zk BK387 hb, zbs hb⟩; clear BK387 HB; obtain ⟨BK387, HB⟩ := n_; (try clear hb); (try clear hb2); (try clear hk); (try clear hi)))
 go_ret
 exact ⟨zv, zbo⟩
-- NOT PRINTED: function 181 (impl_Cell_181)

-- NOT PRINTED: function 148 (impl_Cell_148)

def impl_ValidMachine_1.f (k : Nat) (a0_0 : Int) (a0_1 : Int) (l1 : List (S41)) : Option (Bool) := if 0 < (l1.length : Int) then ((impl_Board_at.f k [(⟨(rd_T41 l1 0).f0.f0, (rd_T41 l1 0).f0.f1, (rd_T41 l1 0).f0.f2⟩ : S37)] a0_0 a0_1).bind fun t391 => (some (decide (t391 < 0)))) else (none)
theorem impl_ValidMachine_1.mono : ∀ a0 a1 a2 k, LeO (impl_ValidMachine_1.f k a0 a1 a2) (impl_ValidMachine_1.f (k + 1) a0 a1 a2) := by
 intro a0 a1 a2 k
 unfold impl_ValidMachine_1.f
 repeat' first | (with_reducible first | apply impl_Board_at.mono | exact LeO.refl _ | exact LeO.none _ | refine LeO.ite ?_ ?_ | refine LeO.bind ?_ (fun _ => ?_)) | apply impl_Board_at.mono | exact LeO.none _ | refine LeO.ite ?_ ?_ | refine LeO.bind ?_ (fun _ => ?_)
theorem impl_ValidMachine_1.calls (k : Nat) (a0_0 : Int) (a0_1 : Int) (adp1 : Addr) (l1 : List (S41)) (r : Bool) (w : World) (hr1 : Kd.C k41 w (some adp1) l1.length l1) (h : impl_ValidMachine_1.f k a0_0 a0_1 l1 = some r) :
    Calls Try.prog 149 #[.agg #[.int .i8 a0_0, .int .i8 a0_1], .pointer (some adp1)] w fun e w' => e = .returned (.bool r) ∧ Below w.heap.size w w' := by
 have hu74 := Try.underlying74
 have HR1 := Aside0.mk hr1
 clear hr1
 have HB := Aside0.mk (Below.refl w.heap.size w)
 have H : (if 0 < (l1.length : Int) then ((impl_Board_at.f k [(⟨(rd_T41 l1 0).f0.f0, (rd_T41 l1 0).f0.f1, (rd_T41 l1 0).f0.f2⟩ : S37)] a0_0 a0_1).bind fun t391 => (some (decide (t391 < 0)))) else (none)) = some r := h
 clear h
 by_cases c3 : 0 < (l1.length : Int)
 rotate_left
 ·rw [if_neg c3] at H
  exact absurd H (by simp)
 rw [if_pos c3] at H
 have c3b0 : decide (0 < (l1.length : Int)) = true := decide_eq_true c3
 have c3b1 : decide (0 < l1.length) = true := decide_eq_true (by omega)
 clear c3
 replace H := zob H
 obtain ⟨t391, A40, H⟩ := H
 replace H : (some (decide (t391 < 0))) = some r := H
 have A4 := Aside0.mk A40
 clear A40
 obtain rfl := Option.some.inj H
 go_enter Try.func149, Try.ntmps149
 go_wp2_with (first | ((with_reducible refine gate_dst (N := 2) rfl ?_); refine zbx 2 #[.int .i8 a0_0, .int .i8 a0_1] 74 ?_; intro gb389 hg w5 hbox hb; have n_ : _ ∧ _ ∧ _ ∧ _ := ⟨zb HB hb, Aside0.mk (hbox), zg HB hg, zg HB hg⟩; clear HB; obtain ⟨HB, BK389, GW389, GE389⟩ := n_; clear hb hbox hg; have p390 : 0 ≤ (0 : Int) := (by omega); have q390 : 0 < (l1.length : Int) := of_decide_eq_true zA; obtain ⟨ad390, A390_2, c390_2, A390_3, c390_3, A390_4, c390_4, e390, hx390_0, hx390_1, hx390_2, hx390_3, hx390_4, hl390_2, hi390_2, hl390_3, hi390_3, hl390_4, hi390_4⟩ := at_T41 HR1.out 0 p390 q390; obtain rfl : adp1 = ad390 := (by injection e390); have qi390 : (0 < l1.length) = True := eq_true (by omega); (try simp only [z00, Nat.zero_mul, Addr.add_zero'] at hx390_0 hx390_1 hx390_2 hx390_3 hx390_4); replace hx390_0 := zc HB hx390_0; replace hx390_1 := zc HB hx390_1; replace hx390_2 := zc HB hx390_2; replace hx390_3 := zc HB hx390_3; replace hx390_4 := zc HB hx390_4; have HR390_2 := Aside0.mk hi390_2; have HC390_2 := Aside0.mk hl390_2; clear hi390_2 hl390_2; have HR390_3 := Aside0.mk hi390_3; have HC390_3 := Aside0.mk hl390_3; clear hi390_3 hl390_3; have HR390_4 := Aside0.mk hi390_4; have HC390_4 := Aside0.mk hl390_4; clear hi390_4 hl390_4; replace p390 := eq_true p390; replace q390 := eq_true q390; obtain ⟨z6_0, z6_1, y6_0, y6_1⟩ := zB2 BK389) | ((with_reducible refine gate_callee (f := 119) rfl ?_); refine goesL_ (some 6) rfl rfl Try.func119 (by kernel_rfl) rfl #[.pointer (some adp1), .agg #[.int .i8 a0_0, .int .i8 a0_1]] rfl zm ?_; (with_reducible refine (impl_Board_at.calls k _ [(⟨(rd_T41 l1 0).f0.f0, (rd_T41 l1 0).f0.f1, (rd_T41 l1 0).f0.f2⟩ : S37)] a0_0 a0_1 t391 _ ?side1 A4.out).mono ?_); (case side1 => refine ro_first (d := k41) (d1 := k37) (f := fun x : S41 => (x.f0, x.f1, x.f2)) (l := l1) rfl z41 ?_ (by first | (have h_ := of_eq_true q390; omega) | (have h_ : 0 < (l1.length : Int) := of_decide_eq_true (by assumption); omega) | omega) rfl; exact zcc HB HR1.out); rintro e w7 ⟨rfl, hb⟩; refine ⟨_, rfl, ?_⟩; have n_ : _ ∧ _ := ⟨zk BK389 hb, zbs hb⟩; clear BK389 HB; obtain ⟨BK389, HB⟩ := n_; (try clear hb); (try clear hb2); (try clear hk); (try clear hi)))
 go_ret
 exact ⟨zv, zbo⟩
def slices_IndexFunc__impl_ValidMachine_1.l0 : Nat → List (S74) → Int → Int → List (S41) → Option (Int)
  | 0, _, _, _, _ => none
  | k + 1, x0, x7, x8, x2000 => if x8 < x7 then (if 0 ≤ x8 then (if x8 < (x0.length : Int) then ((impl_ValidMachine_1.f k ((rd_T74 x0 x8).f0) ((rd_T74 x0 x8).f1) x2000).bind fun t393 => (if t393 = true then (some x8) else (slices_IndexFunc__impl_ValidMachine_1.l0 k x0 x7 (wrap64 (x8 + 1)) x2000))) else (none)) else (none)) else (some (-1))
def slices_IndexFunc__impl_ValidMachine_1.f (k : Nat) (l0 : List (S74)) (l1_0 : List (S41)) : Option (Int) := slices_IndexFunc__impl_ValidMachine_1.l0 k l0 (l0.length : Int) 0 l1_0
theorem slices_IndexFunc__impl_ValidMachine_1.mono_l : ∀ k, (∀ y0 y1 y2 y3, LeO (slices_IndexFunc__impl_ValidMachine_1.l0 k y0 y1 y2 y3) (slices_IndexFunc__impl_ValidMachine_1.l0 (k + 1) y0 y1 y2 y3))
  | 0 => fun _ _ _ _ r h => by simp [slices_IndexFunc__impl_ValidMachine_1.l0] at h
  | k + 1 => by
    have ih0 := slices_IndexFunc__impl_ValidMachine_1.mono_l k
    · intro y0 y1 y2 y3
      unfold slices_IndexFunc__impl_ValidMachine_1.l0
      repeat' first | (with_reducible first | apply ih0 | apply impl_ValidMachine_1.mono | exact LeO.refl _ | exact LeO.none _ | refine LeO.ite ?_ ?_ | refine LeO.bind ?_ (fun _ => ?_)) | apply ih0 | apply impl_ValidMachine_1.mono | exact LeO.none _ | refine LeO.ite ?_ ?_ | refine LeO.bind ?_ (fun _ => ?_)
theorem slices_IndexFunc__impl_ValidMachine_1.mono : ∀ a0 a1 k, LeO (slices_IndexFunc__impl_ValidMachine_1.f k a0 a1) (slices_IndexFunc__impl_ValidMachine_1.f (k + 1) a0 a1) := by
 intro a0 a1 k
 have ih0 := slices_IndexFunc__impl_ValidMachine_1.mono_l k
 unfold slices_IndexFunc__impl_ValidMachine_1.f
 repeat' first | (with_reducible first | apply ih0 | apply impl_ValidMachine_1.mono | exact LeO.refl _ | exact LeO.none _ | refine LeO.ite ?_ ?_ | refine LeO.bind ?_ (fun _ => ?_)) | apply ih0 | apply impl_ValidMachine_1.mono | exact LeO.none _ | refine LeO.ite ?_ ?_ | refine LeO.bind ?_ (fun _ => ?_)
theorem slices_IndexFunc__impl_ValidMachine_1.calls (k : Nat) (A0 : Option Addr) (c0 : Nat) (l0 : List (S74)) (adp1_0 : Addr) (l1_0 : List (S41)) (r : Int) (w : World) (hr0 : Kd.C k74 w A0 l0.length l0) (hc0 : l0.length ≤ c0) (hr1_0 : Kd.C k41 w (some adp1_0) l1_0.length l1_0) (h : slices_IndexFunc__impl_ValidMachine_1.f k l0 l1_0 = some r) :
    Calls Try.prog 181 #[.slice A0 l0.length c0, .func (.func 149) #[] #[.pointer (some adp1_0)]] w fun e w' => e = .returned (.int .i64 r) ∧ Below w.heap.size w w' := by
 have hu74 := Try.underlying74
 have HR0 := Aside0.mk hr0
 have HC0 := Aside0.mk hc0
 clear hr0 hc0
 have HR1_0 := Aside0.mk hr1_0
 clear hr1_0
 have HB := Aside0.mk (Below.refl w.heap.size w)
 have H : (slices_IndexFunc__impl_ValidMachine_1.l0 k l0 (l0.length : Int) 0 l1_0) = some r := h
 clear h
 have H' := Aside0.mk H
 clear H
 go_enter Try.func181, Try.ntmps181
 go_wp2
 go_loopg [8] k (fun kq v8 w' => ∃ (x8_1 : Int), v8 = .int .i64 x8_1 ∧ Aside0 (slices_IndexFunc__impl_ValidMachine_1.l0 kq l0 (l0.length : Int) x8_1 l1_0 = some r) ∧ Aside0 (kq ≤ k) ∧ Aside0 (Below w.heap.size w w'))
 case atStart => exact ⟨(0), zi, H', ⟨Nat.le_refl _⟩, zl HB⟩
 clear H'
 try clear c2
 try clear p2
 obtain ⟨x8_1, rfl, HA, HK1, HB⟩ := hrel
 cases gk with
 | zero => exact absurd HA.out (by simp [slices_IndexFunc__impl_ValidMachine_1.l0])
 | succ k1 => ?_
 have H := HA.out
 clear HA
 simp only [slices_IndexFunc__impl_ValidMachine_1.l0] at H
 by_cases c3 : x8_1 < (l0.length : Int)
 rotate_left
 ·rw [if_neg c3] at H
  have c3b0 : decide (x8_1 < (l0.length : Int)) = false := decide_eq_false c3
  clear c3
  obtain rfl := Option.some.inj H
  go_wp2
  go_ret
  exact ⟨zv, zbo⟩
 rw [if_pos c3] at H
 have c3b0 : decide (x8_1 < (l0.length : Int)) = true := decide_eq_true c3
 clear c3
 by_cases c4 : 0 ≤ x8_1
 rotate_left
 ·rw [if_neg c4] at H
  exact absurd H (by simp)
 rw [if_pos c4] at H
 have c4b0 : decide (0 ≤ x8_1) = true := decide_eq_true c4
 clear c4
 by_cases c5 : x8_1 < (l0.length : Int)
 rotate_left
 ·rw [if_neg c5] at H
  exact absurd H (by simp)
 rw [if_pos c5] at H
 have c5b0 : decide (x8_1 < (l0.length : Int)) = true := decide_eq_true c5
 clear c5
 replace H := zob H
 obtain ⟨t393, A60, H⟩ := H
 replace H : (if t393 = true then (some x8_1) else (slices_IndexFunc__impl_ValidMachine_1.l0 k1 l0 (l0.length : Int) (wrap64 (x8_1 + 1)) l1_0)) = some r := H
 have A6 := Aside0.mk A60
 clear A60
 by_cases c7 : t393 = true
 ·subst c7
  have H1 : (some x8_1) = some r := by rw [if_pos rfl] at H; exact H
  clear H
  have H := H1
  clear H1
  obtain rfl := Option.some.inj H
  have p392 : 0 ≤ (x8_1 : Int) := of_decide_eq_true zA
  have q392 : x8_1 < (l0.length : Int) := of_decide_eq_true zA
  obtain ⟨ad392, e392, hx392_0, hx392_1⟩ := at_T74 HR0.out x8_1 p392 q392
  cases e392
  replace hx392_0 := zc HB hx392_0
  replace hx392_1 := zc HB hx392_1
  replace p392 := eq_true p392
  replace q392 := eq_true q392
  go_wp2_with (first | (go_at_call 149; (with_reducible refine (impl_ValidMachine_1.calls k1 ((rd_T74 l0 x8_1).f0) ((rd_T74 l0 x8_1).f1) _ l1_0 true _ ?side1 A6.out).mono ?_); (case side1 => exact zcc HB HR1_0.out); rintro e w8 ⟨rfl, hb⟩; have n0_ := zb HB hb; clear HB; have HB := n0_; clear n0_; (try clear hb); (try clear hb2); (try clear hk); (try clear hi)))
  go_ret
  exact ⟨zv, zbo⟩
 replace c7 := Bool.eq_false_iff.mpr c7
 subst c7
 have H1 : (slices_IndexFunc__impl_ValidMachine_1.l0 k1 l0 (l0.length : Int) (wrap64 (x8_1 + 1)) l1_0) = some r := by rw [if_neg (show ¬ (false = true) by decide)] at H; exact H
 clear H
 have H := H1
 clear H1
 have H' := Aside0.mk H
 clear H
 have p392 : 0 ≤ (x8_1 : Int) := of_decide_eq_true zA
 have q392 : x8_1 < (l0.length : Int) := of_decide_eq_true zA
 obtain ⟨ad392, e392, hx392_0, hx392_1⟩ := at_T74 HR0.out x8_1 p392 q392
 cases e392
 replace hx392_0 := zc HB hx392_0
 replace hx392_1 := zc HB hx392_1
 replace p392 := eq_true p392
 replace q392 := eq_true q392
 go_wp2_with (first | (go_at_call 149; (with_reducible refine (impl_ValidMachine_1.calls k1 ((rd_T74 l0 x8_1).f0) ((rd_T74 l0 x8_1).f1) _ l1_0 false _ ?side1 A6.out).mono ?_); (case side1 => exact zcc HB HR1_0.out); rintro e w9 ⟨rfl, hb⟩; have n0_ := zb HB hb; clear HB; have HB := n0_; clear n0_; (try clear hb); (try clear hb2); (try clear hk); (try clear hi)))
 go_roundg k1
 case measure => have := HK1.out; omega
 case rel => exact ⟨(wrap64 (x8_1 + 1)), zi, H', ⟨by have := HK1.out; omega⟩, zl HB⟩
end Go.Proofs.Ytffnfpnajkgnaaa.PFnExactMoveMachine
