-- WRITTEN by xprint.py, a program of this session's. Not trusted: Lean checks it.
-- packed by pack.py
import Derived.Test.YtjeejglobdgpjaaPFnPiecesx0
import Derived.Test.YtjeejglobdgpjaaPFnPiecesx5
import Derived.Test.YtjeejglobdgpjaaPFnPiecesx6
import Derived.Test.YtjeejglobdgpjaaTFnPiecesa
namespace Go.Proofs.Ytjeejglobdgpjaa.PFnPieces
open Go.RowKit Go.Proofs.YtjeejglobdgpjaaW.PrintWords Go.Proofs.YtjeejglobdgpjaaW.PrintLast Go.Proofs.YtjeejglobdgpjaaW.PrintMore Go.Proofs.YtjeejglobdgpjaaX
attribute [local go_sem] max2_int min2_int max_two min_two max_three min_three max_four min_four   -- for this text's walks alone
set_option maxHeartbeats 8000000
set_option maxRecDepth 100000
set_option linter.unusedVariables false
set_option linter.unusedSimpArgs false

mutual
def impl_AlikePieces.j0 : Nat → Bool → Int → Int → Int → Int → Int → Int → Int → Int → Int → Int → Option (Bool × Int)
  | 0, _, _, _, _, _, _, _, _, _, _, _ => none
  | k + 1, x18, x283000, x283001, x283002, x283003, x283004, x284000, x284001, x284002, x284003, x284004 => if x18 = true then (some (false, 1)) else (impl_AlikePieces.l0 k 0 x283000 x283001 x283002 x283003 x283004 x284000 x284001 x284002 x284003 x284004)
def impl_AlikePieces.l0 : Nat → Int → Int → Int → Int → Int → Int → Int → Int → Int → Int → Int → Option (Bool × Int)
  | 0, _, _, _, _, _, _, _, _, _, _, _ => none
  | k + 1, x19, x283000, x283001, x283002, x283003, x283004, x284000, x284001, x284002, x284003, x284004 => if x19 < 4 then ((impl_Piece_falls.f k x283000 x283001 x283002 x283003 x283004 x19).bind fun bt286 => ((impl_Piece_falls.f k x284000 x284001 x284002 x284003 x284004 x19).bind fun bt288 => (if (bt286.1 != bt288.1) = true then (some (false, 0)) else (if bt286.2 = bt288.2 then (impl_AlikePieces.l0 k (wrap64 (x19 + 1)) x283000 x283001 x283002 x283003 x283004 x284000 x284001 x284002 x284003 x284004) else (some (false, 0)))))) else (some ((x283004 == x284004), 0))
end
def impl_AlikePieces.f (k : Nat) (a0_0 : Int) (a0_1 : Int) (a0_2 : Int) (a0_3 : Int) (a0_4 : Int) (a1_0 : Int) (a1_1 : Int) (a1_2 : Int) (a1_3 : Int) (a1_4 : Int) : Option (Bool × Int) := (impl_ValidPiece.f a0_0 a0_1 a0_2 a0_3 a0_4).bind fun t284 => (if t284 = true then ((impl_ValidPiece.f a1_0 a1_1 a1_2 a1_3 a1_4).bind fun t285 => (impl_AlikePieces.j0 k (!t285) a0_0 a0_1 a0_2 a0_3 a0_4 a1_0 a1_1 a1_2 a1_3 a1_4)) else (impl_AlikePieces.j0 k true a0_0 a0_1 a0_2 a0_3 a0_4 a1_0 a1_1 a1_2 a1_3 a1_4))
theorem impl_AlikePieces.mono_l : ∀ k, (∀ y0 y1 y2 y3 y4 y5 y6 y7 y8 y9 y10, LeO (impl_AlikePieces.j0 k y0 y1 y2 y3 y4 y5 y6 y7 y8 y9 y10) (impl_AlikePieces.j0 (k + 1) y0 y1 y2 y3 y4 y5 y6 y7 y8 y9 y10)) ∧ (∀ y0 y1 y2 y3 y4 y5 y6 y7 y8 y9 y10, LeO (impl_AlikePieces.l0 k y0 y1 y2 y3 y4 y5 y6 y7 y8 y9 y10) (impl_AlikePieces.l0 (k + 1) y0 y1 y2 y3 y4 y5 y6 y7 y8 y9 y10))
  | 0 => ⟨fun _ _ _ _ _ _ _ _ _ _ _ r h => by simp [impl_AlikePieces.j0] at h, fun _ _ _ _ _ _ _ _ _ _ _ r h => by simp [impl_AlikePieces.l0] at h⟩
  | k + 1 => by
    obtain ⟨ih0, ih1⟩ := impl_AlikePieces.mono_l k
    refine ⟨?_, ?_⟩
    · intro y0 y1 y2 y3 y4 y5 y6 y7 y8 y9 y10
      unfold impl_AlikePieces.j0
      repeat' first | (with_reducible first | apply ih0 | apply ih1 | apply impl_Piece_falls.mono | exact LeO.refl _ | exact LeO.none _ | refine LeO.ite ?_ ?_ | refine LeO.bind ?_ (fun _ => ?_)) | apply ih0 | apply ih1 | apply impl_Piece_falls.mono | exact LeO.none _ | refine LeO.ite ?_ ?_ | refine LeO.bind ?_ (fun _ => ?_)
    · intro y0 y1 y2 y3 y4 y5 y6 y7 y8 y9 y10
      unfold impl_AlikePieces.l0
      repeat' first | (with_reducible first | apply ih0 | apply ih1 | apply impl_Piece_falls.mono | exact LeO.refl _ | exact LeO.none _ | refine LeO.ite ?_ ?_ | refine LeO.bind ?_ (fun _ => ?_)) | apply ih0 | apply ih1 | apply impl_Piece_falls.mono | exact LeO.none _ | refine LeO.ite ?_ ?_ | refine LeO.bind ?_ (fun _ => ?_)
theorem impl_AlikePieces.mono : ∀ a0 a1 a2 a3 a4 a5 a6 a7 a8 a9 k, LeO (impl_AlikePieces.f k a0 a1 a2 a3 a4 a5 a6 a7 a8 a9) (impl_AlikePieces.f (k + 1) a0 a1 a2 a3 a4 a5 a6 a7 a8 a9) := by
 intro a0 a1 a2 a3 a4 a5 a6 a7 a8 a9 k
 obtain ⟨ih0, ih1⟩ := impl_AlikePieces.mono_l k
 unfold impl_AlikePieces.f
 repeat' first | (with_reducible first | apply ih0 | apply ih1 | apply impl_Piece_falls.mono | exact LeO.refl _ | exact LeO.none _ | refine LeO.ite ?_ ?_ | refine LeO.bind ?_ (fun _ => ?_)) | apply ih0 | apply ih1 | apply impl_Piece_falls.mono | exact LeO.none _ | refine LeO.ite ?_ ?_ | refine LeO.bind ?_ (fun _ => ?_)
theorem impl_AlikePieces.calls (k : Nat) (a0_0 : Int) (a0_1 : Int) (a0_2 : Int) (a0_3 : Int) (a0_4 : Int) (a1_0 : Int) (a1_1 : Int) (a1_2 : Int) (a1_3 : Int) (a1_4 : Int) (r1 : Bool) (r2 : Int) (w : World) (h : impl_AlikePieces.f k a0_0 a0_1 a0_2 a0_3 a0_4 a1_0 a1_1 a1_2 a1_3 a1_4 = some (r1, r2)) :
    Calls Try.prog 15 #[.agg #[.int .i8 a0_0, .int .i8 a0_1, .int .i8 a0_2, .int .i8 a0_3, .int .i8 a0_4], .agg #[.int .i8 a1_0, .int .i8 a1_1, .int .i8 a1_2, .int .i8 a1_3, .int .i8 a1_4]] w fun e w' => e = .returned (.tuple #[.bool r1, .int .i64 r2]) ∧ Below w.heap.size w w' := by
 have hu28 := Try.underlying28
 have HB := Aside0.mk (Below.refl w.heap.size w)
 have H : ((impl_ValidPiece.f a0_0 a0_1 a0_2 a0_3 a0_4).bind fun t284 => (if t284 = true then ((impl_ValidPiece.f a1_0 a1_1 a1_2 a1_3 a1_4).bind fun t285 => (impl_AlikePieces.j0 k (!t285) a0_0 a0_1 a0_2 a0_3 a0_4 a1_0 a1_1 a1_2 a1_3 a1_4)) else (impl_AlikePieces.j0 k true a0_0 a0_1 a0_2 a0_3 a0_4 a1_0 a1_1 a1_2 a1_3 a1_4))) = some (r1, r2) := h
 clear h
 have HC3 := Aside0.mk H
 clear H
 go_enter Try.func15, Try.ntmps15
 go_upto_region 1 with (first | ((with_reducible refine gate_dst (N := 2) rfl ?_); refine zbx 2 #[.int .i8 a0_0, .int .i8 a0_1, .int .i8 a0_2, .int .i8 a0_3, .int .i8 a0_4] 28 ?_; intro gb282 hg w4 hbox hb; have n_ : _ ∧ _ ∧ _ ∧ _ := ⟨zb HB hb, Aside0.mk (hbox), zg HB hg, zg HB hg⟩; clear HB; obtain ⟨HB, BK282, GW282, GE282⟩ := n_; clear hb hbox hg) | ((with_reducible refine gate_dst (N := 3) rfl ?_); refine zbx 3 #[.int .i8 a1_0, .int .i8 a1_1, .int .i8 a1_2, .int .i8 a1_3, .int .i8 a1_4] 28 ?_; intro gb283 hg w5 hbox hb; have n_ : _ ∧ _ ∧ _ ∧ _ ∧ _ ∧ _ ∧ _ := ⟨zk BK282 hb, zbs hb, Aside0.mk (hbox), zg HB hg, zg HB hg, zn1 BK282 hg, zn2 BK282 hg⟩; clear BK282 HB; obtain ⟨BK282, HB, BK283, GW283, GE283, NB282_283, NB283_282⟩ := n_; clear hb hbox hg))
 (try simp only [Act.put, List.setIfInBounds_toArray, List.set_cons_zero, List.set_cons_succ])
 go_cut [18] (fun v18 wc => ∃ (kq : Nat) (x18_2 : Bool), v18 = .bool x18_2 ∧ Aside0 (impl_AlikePieces.j0 kq x18_2 a0_0 a0_1 a0_2 a0_3 a0_4 a1_0 a1_1 a1_2 a1_3 a1_4 = some (r1, r2)) ∧ Aside0 (kq ≤ k) ∧ Aside0 (wc.heap[gb282]? = some (.cells #[.int .i8 a0_0, .int .i8 a0_1, .int .i8 a0_2, .int .i8 a0_3, .int .i8 a0_4] 28 (0, 0))) ∧ Aside0 (wc.heap[gb283]? = some (.cells #[.int .i8 a1_0, .int .i8 a1_1, .int .i8 a1_2, .int .i8 a1_3, .int .i8 a1_4] 28 (0, 0))) ∧ Aside0 (Below w.heap.size w wc))
 case first =>
  have H := HC3.out
  clear HC3
  replace H := zob H
  obtain ⟨t284, A60, H⟩ := H
  replace H : (if t284 = true then ((impl_ValidPiece.f a1_0 a1_1 a1_2 a1_3 a1_4).bind fun t285 => (impl_AlikePieces.j0 k (!t285) a0_0 a0_1 a0_2 a0_3 a0_4 a1_0 a1_1 a1_2 a1_3 a1_4)) else (impl_AlikePieces.j0 k true a0_0 a0_1 a0_2 a0_3 a0_4 a1_0 a1_1 a1_2 a1_3 a1_4)) = some (r1, r2) := H
  have A6 := Aside0.mk A60
  clear A60
  by_cases c7 : t284 = true
  rotate_left
  ·replace c7 := Bool.eq_false_iff.mpr c7
   subst c7
   have H1 : (impl_AlikePieces.j0 k true a0_0 a0_1 a0_2 a0_3 a0_4 a1_0 a1_1 a1_2 a1_3 a1_4) = some (r1, r2) := by rw [if_neg (show ¬ (false = true) by decide)] at H; exact H
   clear H
   have H := H1
   clear H1
   have H' := Aside0.mk H
   clear H
   have hnb14 := NB282_283.out
   have hnc14 := NB283_282.out
   obtain ⟨z15_0, z15_1, z15_2, z15_3, z15_4, y15_0, y15_1, y15_2, y15_3, y15_4⟩ := zB5 BK282
   go_wp2_with (first | ((with_reducible refine gate_callee (f := 9) rfl ?_); refine goesL_ (some 12) rfl rfl Try.func9 (by kernel_rfl) rfl #[.agg #[.int .i8 a0_0, .int .i8 a0_1, .int .i8 a0_2, .int .i8 a0_3, .int .i8 a0_4]] rfl zm ?_; (with_reducible refine (impl_ValidPiece.calls a0_0 a0_1 a0_2 a0_3 a0_4 false _ A6.out).mono ?_); rintro e w16 ⟨rfl, hb⟩; refine ⟨_, rfl, ?_⟩; have n_ : _ ∧ _ ∧ _ := ⟨zk BK282 hb, zk BK283 hb, zbs hb⟩; clear BK282 BK283 HB; obtain ⟨BK282, BK283, HB⟩ := n_; (try clear hb); (try clear hb2); (try clear hk); (try clear hi)))
   go_meet
   case rel => exact ⟨_, (true), zi, H', ⟨by first | omega | exact Nat.le_refl _⟩, zh BK282, zh BK283, zba⟩
  subst c7
  have H1 : ((impl_ValidPiece.f a1_0 a1_1 a1_2 a1_3 a1_4).bind fun t285 => (impl_AlikePieces.j0 k (!t285) a0_0 a0_1 a0_2 a0_3 a0_4 a1_0 a1_1 a1_2 a1_3 a1_4)) = some (r1, r2) := by rw [if_pos rfl] at H; exact H
  clear H
  have H := H1
  clear H1
  replace H := zob H
  obtain ⟨t285, A80, H⟩ := H
  replace H : (impl_AlikePieces.j0 k (!t285) a0_0 a0_1 a0_2 a0_3 a0_4 a1_0 a1_1 a1_2 a1_3 a1_4) = some (r1, r2) := H
  have A8 := Aside0.mk A80
  clear A80
  have H' := Aside0.mk H
  clear H
  have hnb9 := NB282_283.out
  have hnc9 := NB283_282.out
  obtain ⟨z10_0, z10_1, z10_2, z10_3, z10_4, y10_0, y10_1, y10_2, y10_3, y10_4⟩ := zB5 BK282
  go_wp2_with (first | ((with_reducible refine gate_callee (f := 9) rfl ?_); refine goesL_ (some 12) rfl rfl Try.func9 (by kernel_rfl) rfl #[.agg #[.int .i8 a0_0, .int .i8 a0_1, .int .i8 a0_2, .int .i8 a0_3, .int .i8 a0_4]] rfl zm ?_; (with_reducible refine (impl_ValidPiece.calls a0_0 a0_1 a0_2 a0_3 a0_4 true _ A6.out).mono ?_); rintro e w11 ⟨rfl, hb⟩; refine ⟨_, rfl, ?_⟩; have n_ : _ ∧ _ ∧ _ := ⟨zk BK282 hb, zk BK283 hb, zbs hb⟩; clear BK282 BK283 HB; obtain ⟨BK282, BK283, HB⟩ := n_; (try clear hb); (try clear hb2); (try clear hk); (try clear hi); obtain ⟨z12_0, z12_1, z12_2, z12_3, z12_4, y12_0, y12_1, y12_2, y12_3, y12_4⟩ := zB5 BK283) | (go_at_call 9; (with_reducible refine (impl_ValidPiece.calls a1_0 a1_1 a1_2 a1_3 a1_4 t285 _ A8.out).mono ?_); rintro e w13 ⟨rfl, hb⟩; have n_ : _ ∧ _ ∧ _ := ⟨zk BK282 hb, zk BK283 hb, zbs hb⟩; clear BK282 BK283 HB; obtain ⟨BK282, BK283, HB⟩ := n_; (try clear hb); (try clear hb2); (try clear hk); (try clear hi)))
  go_meet
  case rel => exact ⟨_, (!t285), zi, H', ⟨by first | omega | exact Nat.le_refl _⟩, zh BK282, zh BK283, zba⟩
 clear HC3
 try clear c1
 try clear p2
 try clear c7
 try clear c9
 try clear c14
 try clear c15
 try clear z10_0 z10_1 z10_2 z10_3 z10_4
 try clear z12_0 z12_1 z12_2 z12_3 z12_4
 try clear z15_0 z15_1 z15_2 z15_3 z15_4
 try clear y10_0
 try clear y10_1
 try clear y10_2
 try clear y10_3
 try clear y10_4
 try clear y12_0
 try clear y12_1
 try clear y12_2
 try clear y12_3
 try clear y12_4
 try clear y15_0
 try clear y15_1
 try clear y15_2
 try clear y15_3
 try clear y15_4
 obtain ⟨kq, x18_2, rfl, HA, HJ2, BK282, BK283, HB⟩ := hcut
 cases kq with
 | zero => exact absurd HA.out (by simp [impl_AlikePieces.j0])
 | succ kj2 => ?_
 have H := HA.out
 clear HA
 simp only [impl_AlikePieces.j0] at H
 by_cases c17 : x18_2 = true
 ·subst c17
  have H1 : (some (false, 1)) = some (r1, r2) := by rw [if_pos rfl] at H; exact H
  clear H
  have H := H1
  clear H1
  simp only [Option.some.injEq, Prod.mk.injEq] at H
  obtain ⟨rfl, rfl⟩ := H
  go_wp2
  go_ret2
  exact ⟨zv, zbo⟩
 replace c17 := Bool.eq_false_iff.mpr c17
 subst c17
 have H1 : (impl_AlikePieces.l0 kj2 0 a0_0 a0_1 a0_2 a0_3 a0_4 a1_0 a1_1 a1_2 a1_3 a1_4) = some (r1, r2) := by rw [if_neg (show ¬ (false = true) by decide)] at H; exact H
 clear H
 have H := H1
 clear H1
 have H' := Aside0.mk H
 clear H
 go_wp2
 go_loopg [19] kj2 (fun kq v19 w' => ∃ (x19_2 : Int), v19 = .int .i64 x19_2 ∧ Aside0 (impl_AlikePieces.l0 kq x19_2 a0_0 a0_1 a0_2 a0_3 a0_4 a1_0 a1_1 a1_2 a1_3 a1_4 = some (r1, r2)) ∧ Aside0 (kq ≤ kj2) ∧ Aside0 (w'.heap[gb282]? = some (.cells #[.int .i8 a0_0, .int .i8 a0_1, .int .i8 a0_2, .int .i8 a0_3, .int .i8 a0_4] 28 (0, 0))) ∧ Aside0 (w'.heap[gb283]? = some (.cells #[.int .i8 a1_0, .int .i8 a1_1, .int .i8 a1_2, .int .i8 a1_3, .int .i8 a1_4] 28 (0, 0))) ∧ Aside0 (Below w.heap.size w w'))
 case atStart => exact ⟨(0), zi, H', ⟨Nat.le_refl _⟩, zh BK282, zh BK283, zba⟩
 clear H'
 try clear c1
 try clear p2
 try clear c7
 try clear c9
 try clear c14
 try clear c15
 try clear c17
 try clear z10_0 z10_1 z10_2 z10_3 z10_4
 try clear z12_0 z12_1 z12_2 z12_3 z12_4
 try clear z15_0 z15_1 z15_2 z15_3 z15_4
 try clear y10_0
 try clear y10_1
 try clear y10_2
 try clear y10_3
 try clear y10_4
 try clear y12_0
 try clear y12_1
 try clear y12_2
 try clear y12_3
 try clear y12_4
 try clear y15_0
 try clear y15_1
 try clear y15_2
 try clear y15_3
 try clear y15_4
 try clear p2
 obtain ⟨x19_2, rfl, HA, HK2, BK282, BK283, HB⟩ := hrel
 cases gk with
 | zero => exact absurd HA.out (by simp [impl_AlikePieces.l0])
 | succ k2 => ?_
 have H := HA.out
 clear HA
 simp only [impl_AlikePieces.l0] at H
 by_cases c18 : x19_2 < 4
 rotate_left
 ·rw [if_neg c18] at H
  have c18b0 : decide (x19_2 < 4) = false := decide_eq_false c18
  clear c18
  simp only [Option.some.injEq, Prod.mk.injEq] at H
  obtain ⟨rfl, rfl⟩ := H
  have hnb38 := NB282_283.out
  have hnc38 := NB283_282.out
  obtain ⟨z39_0, z39_1, z39_2, z39_3, z39_4, y39_0, y39_1, y39_2, y39_3, y39_4⟩ := zB5 BK282
  obtain ⟨z40_0, z40_1, z40_2, z40_3, z40_4, y40_0, y40_1, y40_2, y40_3, y40_4⟩ := zB5 BK283
  go_wp2
  go_ret2
  exact ⟨zv, zbo⟩
 rw [if_pos c18] at H
 have c18b0 : decide (x19_2 < 4) = true := decide_eq_true c18
 clear c18
 replace H := zob H
 obtain ⟨⟨t286, t287⟩, A190, H⟩ := H
 replace H : ((impl_Piece_falls.f k2 a1_0 a1_1 a1_2 a1_3 a1_4 x19_2).bind fun bt288 => (if (t286 != bt288.1) = true then (some (false, 0)) else (if t287 = bt288.2 then (impl_AlikePieces.l0 k2 (wrap64 (x19_2 + 1)) a0_0 a0_1 a0_2 a0_3 a0_4 a1_0 a1_1 a1_2 a1_3 a1_4) else (some (false, 0))))) = some (r1, r2) := H
 have A19 := Aside0.mk A190
 clear A190
 replace H := zob H
 obtain ⟨⟨t288, t289⟩, A200, H⟩ := H
 replace H : (if (t286 != t288) = true then (some (false, 0)) else (if t287 = t289 then (impl_AlikePieces.l0 k2 (wrap64 (x19_2 + 1)) a0_0 a0_1 a0_2 a0_3 a0_4 a1_0 a1_1 a1_2 a1_3 a1_4) else (some (false, 0)))) = some (r1, r2) := H
 have A20 := Aside0.mk A200
 clear A200
 by_cases c21 : (t286 != t288) = true
 ·rw [if_pos c21] at H
  have c21b0 : (t286 != t288) = true := c21
  (try (have c21b1 : decide (t286 = t288) = false := by first | (simpa using c21) | (have h_ := c21; revert h_; cases t286 <;> cases t288 <;> decide)))
  (try (have c21b2 : (t286 == t288) = false := by first | (simpa using c21) | (have h_ := c21; revert h_; cases t286 <;> cases t288 <;> decide)))
  (try (have c21b3 : ¬ (t286 = t288) := by simpa using c21))
  clear c21
  simp only [Option.some.injEq, Prod.mk.injEq] at H
  obtain ⟨rfl, rfl⟩ := H
  have hnb22 := NB282_283.out
  have hnc22 := NB283_282.out
  obtain ⟨z23_0, z23_1, z23_2, z23_3, z23_4, y23_0, y23_1, y23_2, y23_3, y23_4⟩ := zB5 BK282
  go_wp2_with (first | ((with_reducible refine gate_callee (f := 28) rfl ?_); refine goesL_ (some 25) rfl rfl Try.func28 (by kernel_rfl) rfl #[.agg #[.int .i8 a0_0, .int .i8 a0_1, .int .i8 a0_2, .int .i8 a0_3, .int .i8 a0_4], .int .i64 x19_2] rfl zm ?_; (with_reducible refine (impl_Piece_falls.calls k2 a0_0 a0_1 a0_2 a0_3 a0_4 x19_2 t286 t287 _ A19.out).mono ?_); rintro e w24 ⟨rfl, hb⟩; refine ⟨_, rfl, ?_⟩; have n_ : _ ∧ _ ∧ _ := ⟨zk BK282 hb, zk BK283 hb, zbs hb⟩; clear BK282 BK283 HB; obtain ⟨BK282, BK283, HB⟩ := n_; (try clear hb); (try clear hb2); (try clear hk); (try clear hi); obtain ⟨z25_0, z25_1, z25_2, z25_3, z25_4, y25_0, y25_1, y25_2, y25_3, y25_4⟩ := zB5 BK283) | ((with_reducible refine gate_callee (f := 28) rfl ?_); refine goesL_ (some 31) rfl rfl Try.func28 (by kernel_rfl) rfl #[.agg #[.int .i8 a1_0, .int .i8 a1_1, .int .i8 a1_2, .int .i8 a1_3, .int .i8 a1_4], .int .i64 x19_2] rfl zm ?_; (with_reducible refine (impl_Piece_falls.calls k2 a1_0 a1_1 a1_2 a1_3 a1_4 x19_2 t288 t289 _ A20.out).mono ?_); rintro e w26 ⟨rfl, hb⟩; refine ⟨_, rfl, ?_⟩; have n_ : _ ∧ _ ∧ _ := ⟨zk BK282 hb, zk BK283 hb, zbs hb⟩; clear BK282 BK283 HB; obtain ⟨BK282, BK283, HB⟩ := n_; (try clear hb); (try clear hb2); (try clear hk); (try clear hi)))
  go_ret2
  exact ⟨zv, zbo⟩
 rw [if_neg c21] at H
 have c21b0 : (t286 != t288) = false := by simpa using c21
 (try (have c21b1 : decide (t286 = t288) = true := by first | (simpa using c21) | (have h_ := c21; revert h_; cases t286 <;> cases t288 <;> decide)))
 (try (have c21b2 : (t286 == t288) = true := by first | (simpa using c21) | (have h_ := c21; revert h_; cases t286 <;> cases t288 <;> decide)))
 clear c21
 by_cases c27 : t287 = t289
 ·rw [if_pos c27] at H
  have c27b0 : (t287 == t289) = true := beq_iff_eq.mpr c27
  have c27b1 : (t287 != t289) = false := bne_eq_false_iff_eq.mpr c27
  clear c27
  have H' := Aside0.mk H
  clear H
  have hnb28 := NB282_283.out
  have hnc28 := NB283_282.out
  obtain ⟨z29_0, z29_1, z29_2, z29_3, z29_4, y29_0, y29_1, y29_2, y29_3, y29_4⟩ := zB5 BK282
  go_wp2_with (first | ((with_reducible refine gate_callee (f := 28) rfl ?_); refine goesL_ (some 25) rfl rfl Try.func28 (by kernel_rfl) rfl #[.agg #[.int .i8 a0_0, .int .i8 a0_1, .int .i8 a0_2, .int .i8 a0_3, .int .i8 a0_4], .int .i64 x19_2] rfl zm ?_; (with_reducible refine (impl_Piece_falls.calls k2 a0_0 a0_1 a0_2 a0_3 a0_4 x19_2 t286 t287 _ A19.out).mono ?_); rintro e w30 ⟨rfl, hb⟩; refine ⟨_, rfl, ?_⟩; have n_ : _ ∧ _ ∧ _ := ⟨zk BK282 hb, zk BK283 hb, zbs hb⟩; clear BK282 BK283 HB; obtain ⟨BK282, BK283, HB⟩ := n_; (try clear hb); (try clear hb2); (try clear hk); (try clear hi); obtain ⟨z31_0, z31_1, z31_2, z31_3, z31_4, y31_0, y31_1, y31_2, y31_3, y31_4⟩ := zB5 BK283) | ((with_reducible refine gate_callee (f := 28) rfl ?_); refine goesL_ (some 31) rfl rfl Try.func28 (by kernel_rfl) rfl #[.agg #[.int .i8 a1_0, .int .i8 a1_1, .int .i8 a1_2, .int .i8 a1_3, .int .i8 a1_4], .int .i64 x19_2] rfl zm ?_; (with_reducible refine (impl_Piece_falls.calls k2 a1_0 a1_1 a1_2 a1_3 a1_4 x19_2 t288 t289 _ A20.out).mono ?_); rintro e w32 ⟨rfl, hb⟩; refine ⟨_, rfl, ?_⟩; have n_ : _ ∧ _ ∧ _ := ⟨zk BK282 hb, zk BK283 hb, zbs hb⟩; clear BK282 BK283 HB; obtain ⟨BK282, BK283, HB⟩ := n_; (try clear hb); (try clear hb2); (try clear hk); (try clear hi)))
  go_roundg k2
  case measure => have := HJ2.out; have := HK2.out; omega
  case rel => exact ⟨(wrap64 (x19_2 + 1)), zi, H', ⟨by have := HJ2.out; have := HK2.out; omega⟩, zh BK282, zh BK283, zba⟩
 rw [if_neg c27] at H
 have c27b0 : (t287 == t289) = false := beq_eq_false_iff_ne.mpr c27
 have c27b1 : (t287 != t289) = true := bne_iff_ne.mpr c27
 simp only [Option.some.injEq, Prod.mk.injEq] at H
 obtain ⟨rfl, rfl⟩ := H
 have hnb33 := NB282_283.out
 have hnc33 := NB283_282.out
 obtain ⟨z34_0, z34_1, z34_2, z34_3, z34_4, y34_0, y34_1, y34_2, y34_3, y34_4⟩ := zB5 BK282
 go_wp2_with (first | ((with_reducible refine gate_callee (f := 28) rfl ?_); refine goesL_ (some 25) rfl rfl Try.func28 (by kernel_rfl) rfl #[.agg #[.int .i8 a0_0, .int .i8 a0_1, .int .i8 a0_2, .int .i8 a0_3, .int .i8 a0_4], .int .i64 x19_2] rfl zm ?_; (with_reducible refine (impl_Piece_falls.calls k2 a0_0 a0_1 a0_2 a0_3 a0_4 x19_2 t286 t287 _ A19.out).mono ?_); rintro e w35 ⟨rfl, hb⟩; refine ⟨_, rfl, ?_⟩; have n_ : _ ∧ _ ∧ _ := ⟨zk BK282 hb, zk BK283 hb, zbs hb⟩; clear BK282 BK283 HB; obtain ⟨BK282, BK283, HB⟩ := n_; (try clear hb); (try clear hb2); (try clear hk); (try clear hi); obtain ⟨z36_0, z36_1, z36_2, z36_3, z36_4, y36_0, y36_1, y36_2, y36_3, y36_4⟩ := zB5 BK283) | ((with_reducible refine gate_callee (f := 28) rfl ?_); refine goesL_ (some 31) rfl rfl Try.func28 (by kernel_rfl) rfl #[.agg #[.int .i8 a1_0, .int .i8 a1_1, .int .i8 a1_2, .int .i8 a1_3, .int .i8 a1_4], .int .i64 x19_2] rfl zm ?_; (with_reducible refine (impl_Piece_falls.calls k2 a1_0 a1_1 a1_2 a1_3 a1_4 x19_2 t288 t289 _ A20.out).mono ?_); rintro e w37 ⟨rfl, hb⟩; refine ⟨_, rfl, ?_⟩; have n_ : _ ∧ _ ∧ _ := ⟨zk BK282 hb, zk BK283 hb, zbs hb⟩; clear BK282 BK283 HB; obtain ⟨BK282, BK283, HB⟩ := n_; (try clear hb); (try clear hb2); (try clear hk); (try clear hi)))
 go_ret2
 exact ⟨zv, zbo⟩
end Go.Proofs.Ytjeejglobdgpjaa.PFnPieces
