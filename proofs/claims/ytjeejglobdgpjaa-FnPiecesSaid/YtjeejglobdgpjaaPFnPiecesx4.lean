-- WRITTEN by xprint.py, a program of this session's. Not trusted: Lean checks it.
-- packed by pack.py
import Derived.Test.YtjeejglobdgpjaaPFnPiecesx0
import Derived.Test.YtjeejglobdgpjaaPFnPiecesx3
import Derived.Test.YtjeejglobdgpjaaTFnPiecesa
namespace Go.Proofs.Ytjeejglobdgpjaa.PFnPieces
open Go.RowKit Go.Proofs.YtjeejglobdgpjaaW.PrintWords Go.Proofs.YtjeejglobdgpjaaW.PrintLast Go.Proofs.YtjeejglobdgpjaaW.PrintMore Go.Proofs.YtjeejglobdgpjaaX
attribute [local go_sem] max2_int min2_int max_two min_two max_three min_three max_four min_four   -- for this text's walks alone
set_option maxHeartbeats 8000000
set_option maxRecDepth 100000
set_option linter.unusedVariables false
set_option linter.unusedSimpArgs false

def spec_l01PieceDrawn.f (s0_0 : List Int) (s0_1 : Int) (s0_2 : Int) (a1_0 : Int) (a1_1 : Int) : Option (Int × Int × Int × Int × Int × Int × Int) := (spec_l00Src_pick.f s0_0 s0_1 s0_2 6).bind fun bt114 => ((spec_l00Src_pick.f s0_0 bt114.2.1 bt114.2.2 4).bind fun bt117 => ((spec_l00Src_one.f s0_0 bt117.2.1 bt117.2.2 3).bind fun bt121 => (if bt121.1 = true then ((spec_l00Src_pick.f s0_0 bt121.2.1 bt121.2.2 4).bind fun bt124 => (some (a1_0, a1_1, IntKind.i8.wrap (bt114.1), IntKind.i8.wrap (bt117.1), IntKind.i8.wrap (wrap64 (1 + bt124.1)), bt124.2.1, bt124.2.2))) else (some (a1_0, a1_1, IntKind.i8.wrap (bt114.1), IntKind.i8.wrap (bt117.1), 1, bt121.2.1, bt121.2.2)))))
def spec_l01PieceDrawn.T1 : Bool × List (List Nat × List Nat) := (true, [([], []), ([], []), ([1], [1]), ([2], [2]), ([], []), ([4, 2], [4]), ([5], [5]), ([0, 3, 6], [0, 3, 6]), ([], []), ([8, 7, 5, 0, 1, 2, 3, 4, 5, 6, 7, 8], [7, 8])])
def spec_l01PieceDrawn.B1 : List Nat := [0, 0, 2, 6, 0, 22, 54, 127, 0, 511]
theorem spec_l01PieceDrawn.tab1 : rtab .any (opsOf Try.f18 1) = spec_l01PieceDrawn.T1 := by kernel_rfl
theorem spec_l01PieceDrawn.bits1 : waitsOk spec_l01PieceDrawn.T1.2 spec_l01PieceDrawn.B1 = true := by kernel_rfl
theorem spec_l01PieceDrawn.calls (g : Nat) (s0_0 : List Int) (s0_1 : Int) (s0_2 : Int) (a1_0 : Int) (a1_1 : Int) (r1 : Int) (r2 : Int) (r3 : Int) (r4 : Int) (r5 : Int) (r6 : Int) (r7 : Int) (w0 w : World) (hI : IsS64 w0 w g s0_0 s0_1 s0_2) (hB : Below w0.heap.size w0 w) (h : spec_l01PieceDrawn.f s0_0 s0_1 s0_2 a1_0 a1_1 = some (r1, r2, r3, r4, r5, r6, r7)) :
    Calls Try.prog 18 #[.pointer (some ⟨g, 0, none⟩), .agg #[.int .i8 a1_0, .int .i8 a1_1]] w fun e w' => e = .returned (.agg #[.int .i8 r1, .int .i8 r2, .int .i8 r3, .int .i8 r4, .int .i8 r5]) ∧ IsS64 w0 w' g s0_0 r6 r7 ∧ Below w0.heap.size w0 w' ∧ KeepBut w w' g none := by
 have hu26 := Try.underlying26
 have hu28 := Try.underlying28
 have HI0 := Aside0.mk hI
 have HK := Aside0.mk (KeepBut.refl w g none)
 have HL := Aside0.mk hB.size
 clear hI
 have HW0 := Aside0.mk hB.size
 have HB := Aside0.mk hB
 clear hB
 have H : ((spec_l00Src_pick.f s0_0 s0_1 s0_2 6).bind fun bt114 => ((spec_l00Src_pick.f s0_0 bt114.2.1 bt114.2.2 4).bind fun bt117 => ((spec_l00Src_one.f s0_0 bt117.2.1 bt117.2.2 3).bind fun bt121 => (if bt121.1 = true then ((spec_l00Src_pick.f s0_0 bt121.2.1 bt121.2.2 4).bind fun bt124 => (some (a1_0, a1_1, IntKind.i8.wrap (bt114.1), IntKind.i8.wrap (bt117.1), IntKind.i8.wrap (wrap64 (1 + bt124.1)), bt124.2.1, bt124.2.2))) else (some (a1_0, a1_1, IntKind.i8.wrap (bt114.1), IntKind.i8.wrap (bt117.1), 1, bt121.2.1, bt121.2.2)))))) = some (r1, r2, r3, r4, r5, r6, r7) := h
 clear h
 replace H := zob H
 obtain ⟨⟨t114, t115, t116⟩, A30, H⟩ := H
 replace H : ((spec_l00Src_pick.f s0_0 t115 t116 4).bind fun bt117 => ((spec_l00Src_one.f s0_0 bt117.2.1 bt117.2.2 3).bind fun bt121 => (if bt121.1 = true then ((spec_l00Src_pick.f s0_0 bt121.2.1 bt121.2.2 4).bind fun bt124 => (some (a1_0, a1_1, IntKind.i8.wrap (t114), IntKind.i8.wrap (bt117.1), IntKind.i8.wrap (wrap64 (1 + bt124.1)), bt124.2.1, bt124.2.2))) else (some (a1_0, a1_1, IntKind.i8.wrap (t114), IntKind.i8.wrap (bt117.1), 1, bt121.2.1, bt121.2.2))))) = some (r1, r2, r3, r4, r5, r6, r7) := H
 have A3 := Aside0.mk A30
 clear A30
 replace H := zob H
 obtain ⟨⟨t117, t118, t119⟩, A40, H⟩ := H
 replace H : ((spec_l00Src_one.f s0_0 t118 t119 3).bind fun bt121 => (if bt121.1 = true then ((spec_l00Src_pick.f s0_0 bt121.2.1 bt121.2.2 4).bind fun bt124 => (some (a1_0, a1_1, IntKind.i8.wrap (t114), IntKind.i8.wrap (t117), IntKind.i8.wrap (wrap64 (1 + bt124.1)), bt124.2.1, bt124.2.2))) else (some (a1_0, a1_1, IntKind.i8.wrap (t114), IntKind.i8.wrap (t117), 1, bt121.2.1, bt121.2.2)))) = some (r1, r2, r3, r4, r5, r6, r7) := H
 have A4 := Aside0.mk A40
 clear A40
 replace H := zob H
 obtain ⟨⟨t121, t122, t123⟩, A50, H⟩ := H
 replace H : (if t121 = true then ((spec_l00Src_pick.f s0_0 t122 t123 4).bind fun bt124 => (some (a1_0, a1_1, IntKind.i8.wrap (t114), IntKind.i8.wrap (t117), IntKind.i8.wrap (wrap64 (1 + bt124.1)), bt124.2.1, bt124.2.2))) else (some (a1_0, a1_1, IntKind.i8.wrap (t114), IntKind.i8.wrap (t117), 1, t122, t123))) = some (r1, r2, r3, r4, r5, r6, r7) := H
 have A5 := Aside0.mk A50
 clear A50
 by_cases c6 : t121 = true
 rotate_left
 ·replace c6 := Bool.eq_false_iff.mpr c6
  subst c6
  have H1 : (some (a1_0, a1_1, IntKind.i8.wrap (t114), IntKind.i8.wrap (t117), 1, t122, t123)) = some (r1, r2, r3, r4, r5, r6, r7) := by rw [if_neg (show ¬ (false = true) by decide)] at H; exact H
  clear H
  have H := H1
  clear H1
  simp only [Option.some.injEq, Prod.mk.injEq] at H
  obtain ⟨rfl, rfl, rfl, rfl, rfl, rfl, rfl⟩ := H
  go_enter Try.func18, Try.ntmps18
  try go_wp2_with (first | ((with_reducible refine gate_dst (N := 3) rfl ?_); refine zbx 3 #[.int .i8 a1_0, .int .i8 a1_1] 26 ?_; intro gb112 hg w29 hbox hb; have n_ : _ ∧ _ ∧ _ ∧ _ ∧ _ ∧ _ ∧ _ ∧ _ := ⟨Aside0.mk (IsS64.below (by repeat (first | (with_reducible first | exact HI0.out | apply IsS64.alloc | apply IsS64.drewN | apply IsS64.drew | apply IsS64.set_1 | apply IsS64.set_2) | exact HI0.out)) hb), Aside0.mk (KeepBut.trans (by repeat (first | (with_reducible first | exact HK.out | apply KeepBut.set_ | apply keep_drewN | apply keep_drew | apply keep_alloc) | exact HK.out)) (KeepBut.of_below hb g none) (.inl rfl)), Aside0.mk (below_step (by repeat (first | (with_reducible first | exact HB.out | apply below_alloc | apply pw_below_drewN | apply below_drew1 | refine below_set ?_ (IsS64.ge HI0.out)) | exact HB.out)) hb), Aside0.mk (hbox), Aside0.mk ((by rw [hg]; exact (keep_size (w := w) (g := g) (row := none) (by repeat (first | (with_reducible first | exact HK.out | apply KeepBut.set_ | apply keep_drewN | apply keep_drew | apply keep_alloc) | exact HK.out))) : w.heap.size ≤ gb112)), Aside0.mk ((Nat.le_trans HW0.out (by rw [hg]; exact (keep_size (w := w) (g := g) (row := none) (by repeat (first | (with_reducible first | exact HK.out | apply KeepBut.set_ | apply keep_drewN | apply keep_drew | apply keep_alloc) | exact HK.out))) : w.heap.size ≤ gb112) : w0.heap.size ≤ gb112)), Aside0.mk ((by rw [hg]; exact Nat.ne_of_lt (IsS64.lt (show IsS64 w0 _ g s0_0 s0_1 s0_2 from by repeat (first | (with_reducible first | exact HI0.out | apply IsS64.alloc | apply IsS64.drewN | apply IsS64.drew | apply IsS64.set_1 | apply IsS64.set_2) | exact HI0.out))) : g ≠ gb112)), Aside0.mk ((by rw [hg]; exact Nat.ne_of_gt (IsS64.lt (show IsS64 w0 _ g s0_0 s0_1 s0_2 from by repeat (first | (with_reducible first | exact HI0.out | apply IsS64.alloc | apply IsS64.drewN | apply IsS64.drew | apply IsS64.set_1 | apply IsS64.set_2) | exact HI0.out))) : gb112 ≠ g))⟩; clear HI0 HK HB; obtain ⟨HI0, HK, HB, BK112, GW112, GE112, NB0_112, NB112_0⟩ := n_; clear hb hbox hg) | ((with_reducible refine gate_dst (N := 4) rfl ?_); refine zbx 4 #[.int .i8 0, .int .i8 0, .int .i8 0, .int .i8 0, .int .i8 0] 28 ?_; intro gb113 hg w30 hbox hb; have n_ : _ ∧ _ ∧ _ ∧ _ ∧ _ ∧ _ ∧ _ ∧ _ ∧ _ ∧ _ ∧ _ := ⟨Aside0.mk (IsS64.below (by repeat (first | (with_reducible first | exact HI0.out | apply IsS64.alloc | apply IsS64.drewN | apply IsS64.drew | apply IsS64.set_1 | apply IsS64.set_2 | refine IsS64.far ?_ NB0_112.out _) | exact HI0.out)) hb), zk BK112 hb, Aside0.mk (KeepBut.trans (by repeat (first | (with_reducible first | exact HK.out | apply KeepBut.set_ | apply keep_drewN | apply keep_drew | apply keep_alloc | refine keep_far ?_ GW112.out _) | exact HK.out)) (KeepBut.of_below hb g none) (.inl rfl)), Aside0.mk (below_step (by repeat (first | (with_reducible first | exact HB.out | apply below_alloc | apply pw_below_drewN | apply below_drew1 | refine below_set ?_ (IsS64.ge HI0.out) | refine below_set ?_ GE112.out) | exact HB.out)) hb), Aside0.mk (hbox), Aside0.mk ((by rw [hg]; exact (keep_size (w := w) (g := g) (row := none) (by repeat (first | (with_reducible first | exact HK.out | apply KeepBut.set_ | apply keep_drewN | apply keep_drew | apply keep_alloc | refine keep_far ?_ GW112.out _) | exact HK.out))) : w.heap.size ≤ gb113)), Aside0.mk ((Nat.le_trans HW0.out (by rw [hg]; exact (keep_size (w := w) (g := g) (row := none) (by repeat (first | (with_reducible first | exact HK.out | apply KeepBut.set_ | apply keep_drewN | apply keep_drew | apply keep_alloc | refine keep_far ?_ GW112.out _) | exact HK.out))) : w.heap.size ≤ gb113) : w0.heap.size ≤ gb113)), zn1 BK112 hg, zn2 BK112 hg, Aside0.mk ((by rw [hg]; exact Nat.ne_of_lt (IsS64.lt (show IsS64 w0 _ g s0_0 s0_1 s0_2 from by repeat (first | (with_reducible first | exact HI0.out | apply IsS64.alloc | apply IsS64.drewN | apply IsS64.drew | apply IsS64.set_1 | apply IsS64.set_2 | refine IsS64.far ?_ NB0_112.out _) | exact HI0.out))) : g ≠ gb113)), Aside0.mk ((by rw [hg]; exact Nat.ne_of_gt (IsS64.lt (show IsS64 w0 _ g s0_0 s0_1 s0_2 from by repeat (first | (with_reducible first | exact HI0.out | apply IsS64.alloc | apply IsS64.drewN | apply IsS64.drew | apply IsS64.set_1 | apply IsS64.set_2 | refine IsS64.far ?_ NB0_112.out _) | exact HI0.out))) : gb113 ≠ g))⟩; clear HI0 BK112 HK HB; obtain ⟨HI0, BK112, HK, HB, BK113, GW113, GE113, NB112_113, NB113_112, NB0_113, NB113_0⟩ := n_; clear hb hbox hg))
  have n_ : _ ∧ _ ∧ _ ∧ _ ∧ _ := ⟨Aside0.mk (blk_drew BK112.out), Aside0.mk (blk_drew BK113.out), Aside0.mk (IsS64.drew HI0.out), Aside0.mk (keep_drew HK.out), Aside0.mk (below_drew1 HB.out)⟩
  clear BK112 BK113 HI0 HK HB
  obtain ⟨BK112, BK113, HI0, HK, HB⟩ := n_
  refine start_ (n := 10) (S := fun w' => w'.cell? ⟨gb112, 0, none⟩ = some (.int .i8 a1_0) ∧ w'.cell? ⟨gb112, 1, none⟩ = some (.int .i8 a1_1)) (ds := []) (zq 10 0) (by kernel_rfl) rfl rfl ⟨(blk_cell BK112.out 0).trans rfl, (blk_cell BK112.out 1).trans rfl⟩ (fun hHeld => ?_); refine with_tabW spec_l01PieceDrawn.tab1 spec_l01PieceDrawn.bits1 (fun HT_ HW_ => ?_)
  generalize w30.drew = w31 at BK112 BK113 HI0 HK HB hHeld ⊢
  refine zpu 1 (some 7) (zq 10 2) HT_ ?_
  refine zpu 4 (some 10) (zq 10 18) HT_ ?_
  refine ztk 0 (some 6) (zq 10 19) HT_ HW_ rfl hHeld (Or.inl ⟨by rfl, by (rintro w' ⟨s0, s1⟩; go_simp; with_reducible rfl)⟩) ?_
  refine join_ (σ := Nat) 1 (zq 10 511) (fun s_ => [(8, .int .i64 t114), (11, .int .i64 t117), (5, .pointer (some ⟨s_, 0, none⟩)), (9, .int .i8 (IntKind.i8.wrap (t114))), (12, .int .i8 (IntKind.i8.wrap (t117))), (13, .agg #[.int .i8 a1_0, .int .i8 a1_1, .int .i8 (IntKind.i8.wrap (t114)), .int .i8 (IntKind.i8.wrap (t117)), .int .i8 1])]) (fun s_ w' => (w'.cell? ⟨gb112, 0, none⟩ = some (.int .i8 a1_0) ∧ w'.cell? ⟨gb112, 1, none⟩ = some (.int .i8 a1_1)) ∧ (w'.heap[gb112]? = some (.cells #[.int .i8 a1_0, .int .i8 a1_1] 26 (0, 0))) ∧ (w'.heap[gb113]? = some (.cells #[.int .i8 0, .int .i8 0, .int .i8 0, .int .i8 0, .int .i8 0] 28 (0, 0))) ∧ (w'.heap[s_]? = some (.cells #[.int .i8 0, .int .i8 0, .int .i8 0, .int .i8 0, .int .i8 0] 28 (0, 0))) ∧ (w.heap.size ≤ s_) ∧ (w0.heap.size ≤ s_) ∧ (g ≠ s_) ∧ (s_ ≠ g) ∧ (gb112 ≠ s_) ∧ (s_ ≠ gb112) ∧ (gb113 ≠ s_) ∧ (s_ ≠ gb113) ∧ (IsS64 w0 w' g s0_0 t118 t119) ∧ (KeepBut w w' g none) ∧ (Below w0.heap.size w0 w')) ?_ ?_
  rotate_left
  ·intro hCont
   refine two_ (i := 2) (j := 8) (Ni := some 8) (Nj := some 5) (zq 10 23) (zq 10 275) rfl rfl rfl rfl (two_of HT_.out (by kernel_rfl)) (by decide) (by decide) (fun K hK => ?_) (fun K hK => ?_)
   rotate_left
   ·skip
    refine box_step ?hg (N := 5) ?hd (cs := #[.int .i8 0, .int .i8 0, .int .i8 0, .int .i8 0, .int .i8 0]) (t := 28) ?hr ?_; (case hd => rfl); (case hg => rfl); (case hr => exact zgs)
    intro gb120 hg w32 hbox hb
    have n_ : _ ∧ _ ∧ _ ∧ _ ∧ _ ∧ _ ∧ _ ∧ _ ∧ _ ∧ _ ∧ _ ∧ _ ∧ _ ∧ _ := ⟨Aside0.mk (IsS64.below (by repeat (first | (with_reducible first | exact HI0.out | apply IsS64.alloc | apply IsS64.drewN | apply IsS64.drew | apply IsS64.set_1 | apply IsS64.set_2 | refine IsS64.far ?_ NB0_112.out _ | refine IsS64.far ?_ NB0_113.out _) | exact HI0.out)) hb), zk BK112 hb, zk BK113 hb, Aside0.mk (KeepBut.trans (by repeat (first | (with_reducible first | exact HK.out | apply KeepBut.set_ | apply keep_drewN | apply keep_drew | apply keep_alloc | refine keep_far ?_ GW112.out _ | refine keep_far ?_ GW113.out _) | exact HK.out)) (KeepBut.of_below hb g none) (.inl rfl)), Aside0.mk (below_step (by repeat (first | (with_reducible first | exact HB.out | apply below_alloc | apply pw_below_drewN | apply below_drew1 | refine below_set ?_ (IsS64.ge HI0.out) | refine below_set ?_ GE112.out | refine below_set ?_ GE113.out) | exact HB.out)) hb), Aside0.mk (hbox), Aside0.mk ((by rw [hg]; exact (keep_size (w := w) (g := g) (row := none) (by repeat (first | (with_reducible first | exact HK.out | apply KeepBut.set_ | apply keep_drewN | apply keep_drew | apply keep_alloc | refine keep_far ?_ GW112.out _ | refine keep_far ?_ GW113.out _) | exact HK.out))) : w.heap.size ≤ gb120)), Aside0.mk ((Nat.le_trans HW0.out (by rw [hg]; exact (keep_size (w := w) (g := g) (row := none) (by repeat (first | (with_reducible first | exact HK.out | apply KeepBut.set_ | apply keep_drewN | apply keep_drew | apply keep_alloc | refine keep_far ?_ GW112.out _ | refine keep_far ?_ GW113.out _) | exact HK.out))) : w.heap.size ≤ gb120) : w0.heap.size ≤ gb120)), zn1 BK112 hg, zn2 BK112 hg, zn1 BK113 hg, zn2 BK113 hg, Aside0.mk ((by rw [hg]; exact Nat.ne_of_lt (IsS64.lt (show IsS64 w0 _ g s0_0 s0_1 s0_2 from by repeat (first | (with_reducible first | exact HI0.out | apply IsS64.alloc | apply IsS64.drewN | apply IsS64.drew | apply IsS64.set_1 | apply IsS64.set_2 | refine IsS64.far ?_ NB0_112.out _ | refine IsS64.far ?_ NB0_113.out _) | exact HI0.out))) : g ≠ gb120)), Aside0.mk ((by rw [hg]; exact Nat.ne_of_gt (IsS64.lt (show IsS64 w0 _ g s0_0 s0_1 s0_2 from by repeat (first | (with_reducible first | exact HI0.out | apply IsS64.alloc | apply IsS64.drewN | apply IsS64.drew | apply IsS64.set_1 | apply IsS64.set_2 | refine IsS64.far ?_ NB0_112.out _ | refine IsS64.far ?_ NB0_113.out _) | exact HI0.out))) : gb120 ≠ g))⟩
    clear HI0 BK112 BK113 HK HB
    obtain ⟨HI0, BK112, BK113, HK, HB, BK120, GW120, GE120, NB112_120, NB120_112, NB113_120, NB120_113, NB0_120, NB120_0⟩ := n_
    clear hb hbox hg
    refine hK.out _ _ ⟨(blk_cell BK112.out 0).trans rfl, (blk_cell BK112.out 1).trans rfl⟩ (fun hHeld => ?_)
    clear hK K
    refine norm_ (a' := ?_) ?_ ?_
    rotate_left
    ·show Act.put _ (some 5) _ = _
     exact zap
    refine one_ (i := 2) (N := some 8) (zq 10 279) rfl rfl (one_of HT_.out (by kernel_rfl)) (by decide) (fun K hK => ?_)
    refine goes_ Try.func17 (by kernel_rfl) rfl #[.pointer (some ⟨g, 0, none⟩), .int .i64 6] (by rfl) rfl rfl zm ?_
    with_reducible refine (spec_l00Src_pick.calls g s0_0 s0_1 s0_2 6 t114 t115 t116 w0 _ ?side1 ?side2 A3.out).mono ?_
    (case side1 => repeat (first | (with_reducible first | exact HI0.out | apply IsS64.alloc | apply IsS64.drewN | apply IsS64.drew | apply IsS64.set_1 | apply IsS64.set_2 | refine IsS64.far ?_ NB0_112.out _ | refine IsS64.far ?_ NB0_113.out _ | refine IsS64.far ?_ NB0_120.out _) | exact HI0.out))
    (case side2 => repeat (first | (with_reducible first | exact HB.out | apply below_alloc | apply pw_below_drewN | apply below_drew1 | refine below_set ?_ (IsS64.ge HI0.out) | refine below_set ?_ GE112.out | refine below_set ?_ GE113.out | refine below_set ?_ GE120.out) | exact HB.out))
    rintro e w33 ⟨rfl, hi, hb, hk⟩
    refine ⟨_, rfl, ?_⟩
    have n_ : _ ∧ _ ∧ _ ∧ _ ∧ _ ∧ _ := ⟨Aside0.mk (KeepBut.blk hk (g' := gb112) (o := .cells #[.int .i8 a1_0, .int .i8 a1_1] 26 (0, 0)) (zh BK112).out NB112_0.out (by simp)), Aside0.mk (KeepBut.blk hk (g' := gb113) (o := .cells #[.int .i8 0, .int .i8 0, .int .i8 0, .int .i8 0, .int .i8 0] 28 (0, 0)) (zh BK113).out NB113_0.out (by simp)), Aside0.mk (KeepBut.blk hk (g' := gb120) (o := .cells #[.int .i8 0, .int .i8 0, .int .i8 0, .int .i8 0, .int .i8 0] 28 (0, 0)) (zh BK120).out NB120_0.out (by simp)), Aside0.mk (KeepBut.trans (by repeat (first | (with_reducible first | exact HK.out | apply KeepBut.set_ | apply keep_drewN | apply keep_drew | apply keep_alloc | refine keep_far ?_ GW112.out _ | refine keep_far ?_ GW113.out _ | refine keep_far ?_ GW120.out _) | exact HK.out)) hk (.inl rfl)), Aside0.mk (hb), Aside0.mk (hi)⟩
    clear BK112 BK113 BK120 HK HB HI0
    obtain ⟨BK112, BK113, BK120, HK, HB, HI0⟩ := n_
    (try clear hb)
    (try clear hb2)
    (try clear hk)
    (try clear hi)
    refine hK.out _ _ ⟨(blk_cell BK112.out 0).trans rfl, (blk_cell BK112.out 1).trans rfl⟩ (fun hHeld => ?_)
    clear hK K
    refine norm_ (a' := ?_) ?_ ?_
    rotate_left
    ·show Act.put _ (some 8) _ = _
     exact zap
    refine zpu 3 (some 9) (zq 10 287) HT_ ?_
    refine one_ (i := 5) (N := some 11) (zq 10 319) rfl rfl (one_of HT_.out (by kernel_rfl)) (by decide) (fun K hK => ?_)
    refine goes_ Try.func17 (by kernel_rfl) rfl #[.pointer (some ⟨g, 0, none⟩), .int .i64 4] (by rfl) rfl rfl zm ?_
    with_reducible refine (spec_l00Src_pick.calls g s0_0 t115 t116 4 t117 t118 t119 w0 _ ?side1 ?side2 A4.out).mono ?_
    (case side1 => repeat (first | (with_reducible first | exact HI0.out | apply IsS64.alloc | apply IsS64.drewN | apply IsS64.drew | apply IsS64.set_1 | apply IsS64.set_2 | refine IsS64.far ?_ NB0_112.out _ | refine IsS64.far ?_ NB0_113.out _ | refine IsS64.far ?_ NB0_120.out _) | exact HI0.out))
    (case side2 => repeat (first | (with_reducible first | exact HB.out | apply below_alloc | apply pw_below_drewN | apply below_drew1 | refine below_set ?_ (IsS64.ge HI0.out) | refine below_set ?_ GE112.out | refine below_set ?_ GE113.out | refine below_set ?_ GE120.out) | exact HB.out))
    rintro e w34 ⟨rfl, hi, hb, hk⟩
    refine ⟨_, rfl, ?_⟩
    have n_ : _ ∧ _ ∧ _ ∧ _ ∧ _ ∧ _ := ⟨Aside0.mk (KeepBut.blk hk (g' := gb112) (o := .cells #[.int .i8 a1_0, .int .i8 a1_1] 26 (0, 0)) (zh BK112).out NB112_0.out (by simp)), Aside0.mk (KeepBut.blk hk (g' := gb113) (o := .cells #[.int .i8 0, .int .i8 0, .int .i8 0, .int .i8 0, .int .i8 0] 28 (0, 0)) (zh BK113).out NB113_0.out (by simp)), Aside0.mk (KeepBut.blk hk (g' := gb120) (o := .cells #[.int .i8 0, .int .i8 0, .int .i8 0, .int .i8 0, .int .i8 0] 28 (0, 0)) (zh BK120).out NB120_0.out (by simp)), Aside0.mk (KeepBut.trans (by repeat (first | (with_reducible first | exact HK.out | apply KeepBut.set_ | apply keep_drewN | apply keep_drew | apply keep_alloc | refine keep_far ?_ GW112.out _ | refine keep_far ?_ GW113.out _ | refine keep_far ?_ GW120.out _) | exact HK.out)) hk (.inl rfl)), Aside0.mk (hb), Aside0.mk (hi)⟩
    clear BK112 BK113 BK120 HK HB HI0
    obtain ⟨BK112, BK113, BK120, HK, HB, HI0⟩ := n_
    (try clear hb)
    (try clear hb2)
    (try clear hk)
    (try clear hi)
    refine hK.out _ _ ⟨(blk_cell BK112.out 0).trans rfl, (blk_cell BK112.out 1).trans rfl⟩ (fun hHeld => ?_)
    clear hK K
    refine norm_ (a' := ?_) ?_ ?_
    rotate_left
    ·show Act.put _ (some 11) _ = _
     exact zap
    refine zpu 6 (some 12) (zq 10 383) HT_ ?_
    refine zpu 7 (some 13) (zq 10 511) HT_ ?_
    exact norm_ (by simp only [putAll, Act.put, List.setIfInBounds_toArray, List.set_cons_zero, List.set_cons_succ]) (hCont (gb120) _ ⟨hHeld, (zh BK112).out, (zh BK113).out, (zh BK120).out, GW120.out, GE120.out, NB0_120.out, NB120_0.out, NB112_120.out, NB120_112.out, NB113_120.out, NB120_113.out, (by repeat (first | (with_reducible first | exact HI0.out | apply IsS64.alloc | apply IsS64.drewN | apply IsS64.drew | apply IsS64.set_1 | apply IsS64.set_2 | refine IsS64.far ?_ NB0_112.out _ | refine IsS64.far ?_ NB0_113.out _ | refine IsS64.far ?_ NB0_120.out _) | exact HI0.out)), (by repeat (first | (with_reducible first | exact HK.out | apply KeepBut.set_ | apply keep_drewN | apply keep_drew | apply keep_alloc | refine keep_far ?_ GW112.out _ | refine keep_far ?_ GW113.out _ | refine keep_far ?_ GW120.out _) | exact HK.out)), (by repeat (first | (with_reducible first | exact HB.out | apply below_alloc | apply pw_below_drewN | apply below_drew1 | refine below_set ?_ (IsS64.ge HI0.out) | refine below_set ?_ GE112.out | refine below_set ?_ GE113.out | refine below_set ?_ GE120.out) | exact HB.out))⟩)
   skip
   refine goes_ Try.func17 (by kernel_rfl) rfl #[.pointer (some ⟨g, 0, none⟩), .int .i64 6] (by rfl) rfl rfl zm ?_
   with_reducible refine (spec_l00Src_pick.calls g s0_0 s0_1 s0_2 6 t114 t115 t116 w0 _ ?side1 ?side2 A3.out).mono ?_
   (case side1 => repeat (first | (with_reducible first | exact HI0.out | apply IsS64.alloc | apply IsS64.drewN | apply IsS64.drew | apply IsS64.set_1 | apply IsS64.set_2 | refine IsS64.far ?_ NB0_112.out _ | refine IsS64.far ?_ NB0_113.out _) | exact HI0.out))
   (case side2 => repeat (first | (with_reducible first | exact HB.out | apply below_alloc | apply pw_below_drewN | apply below_drew1 | refine below_set ?_ (IsS64.ge HI0.out) | refine below_set ?_ GE112.out | refine below_set ?_ GE113.out) | exact HB.out))
   rintro e w32 ⟨rfl, hi, hb, hk⟩
   refine ⟨_, rfl, ?_⟩
   have n_ : _ ∧ _ ∧ _ ∧ _ ∧ _ := ⟨Aside0.mk (KeepBut.blk hk (g' := gb112) (o := .cells #[.int .i8 a1_0, .int .i8 a1_1] 26 (0, 0)) (zh BK112).out NB112_0.out (by simp)), Aside0.mk (KeepBut.blk hk (g' := gb113) (o := .cells #[.int .i8 0, .int .i8 0, .int .i8 0, .int .i8 0, .int .i8 0] 28 (0, 0)) (zh BK113).out NB113_0.out (by simp)), Aside0.mk (KeepBut.trans (by repeat (first | (with_reducible first | exact HK.out | apply KeepBut.set_ | apply keep_drewN | apply keep_drew | apply keep_alloc | refine keep_far ?_ GW112.out _ | refine keep_far ?_ GW113.out _) | exact HK.out)) hk (.inl rfl)), Aside0.mk (hb), Aside0.mk (hi)⟩
   clear BK112 BK113 HK HB HI0
   obtain ⟨BK112, BK113, HK, HB, HI0⟩ := n_
   (try clear hb)
   (try clear hb2)
   (try clear hk)
   (try clear hi)
   refine hK.out _ _ ⟨(blk_cell BK112.out 0).trans rfl, (blk_cell BK112.out 1).trans rfl⟩ (fun hHeld => ?_)
   clear hK K
   refine norm_ (a' := ?_) ?_ ?_
   rotate_left
   ·show Act.put _ (some 8) _ = _
    exact zap
   refine zpu 3 (some 9) (zq 10 31) HT_ ?_
   refine two_ (i := 5) (j := 8) (Ni := some 11) (Nj := some 5) (zq 10 63) (zq 10 287) rfl rfl rfl rfl (two_of HT_.out (by kernel_rfl)) (by decide) (by decide) (fun K hK => ?_) (fun K hK => ?_)
   ·skip
    refine goes_ Try.func17 (by kernel_rfl) rfl #[.pointer (some ⟨g, 0, none⟩), .int .i64 4] (by rfl) rfl rfl zm ?_
    with_reducible refine (spec_l00Src_pick.calls g s0_0 t115 t116 4 t117 t118 t119 w0 _ ?side1 ?side2 A4.out).mono ?_
    (case side1 => repeat (first | (with_reducible first | exact HI0.out | apply IsS64.alloc | apply IsS64.drewN | apply IsS64.drew | apply IsS64.set_1 | apply IsS64.set_2 | refine IsS64.far ?_ NB0_112.out _ | refine IsS64.far ?_ NB0_113.out _) | exact HI0.out))
    (case side2 => repeat (first | (with_reducible first | exact HB.out | apply below_alloc | apply pw_below_drewN | apply below_drew1 | refine below_set ?_ (IsS64.ge HI0.out) | refine below_set ?_ GE112.out | refine below_set ?_ GE113.out) | exact HB.out))
    rintro e w33 ⟨rfl, hi, hb, hk⟩
    refine ⟨_, rfl, ?_⟩
    have n_ : _ ∧ _ ∧ _ ∧ _ ∧ _ := ⟨Aside0.mk (KeepBut.blk hk (g' := gb112) (o := .cells #[.int .i8 a1_0, .int .i8 a1_1] 26 (0, 0)) (zh BK112).out NB112_0.out (by simp)), Aside0.mk (KeepBut.blk hk (g' := gb113) (o := .cells #[.int .i8 0, .int .i8 0, .int .i8 0, .int .i8 0, .int .i8 0] 28 (0, 0)) (zh BK113).out NB113_0.out (by simp)), Aside0.mk (KeepBut.trans (by repeat (first | (with_reducible first | exact HK.out | apply KeepBut.set_ | apply keep_drewN | apply keep_drew | apply keep_alloc | refine keep_far ?_ GW112.out _ | refine keep_far ?_ GW113.out _) | exact HK.out)) hk (.inl rfl)), Aside0.mk (hb), Aside0.mk (hi)⟩
    clear BK112 BK113 HK HB HI0
    obtain ⟨BK112, BK113, HK, HB, HI0⟩ := n_
    (try clear hb)
    (try clear hb2)
    (try clear hk)
    (try clear hi)
    refine hK.out _ _ ⟨(blk_cell BK112.out 0).trans rfl, (blk_cell BK112.out 1).trans rfl⟩ (fun hHeld => ?_)
    clear hK K
    refine norm_ (a' := ?_) ?_ ?_
    rotate_left
    ·show Act.put _ (some 11) _ = _
     exact zap
    refine zpu 6 (some 12) (zq 10 127) HT_ ?_
    refine zpu 7 (some 13) (zq 10 255) HT_ ?_
    refine one_ (i := 8) (N := some 5) (zq 10 511) rfl rfl (one_of HT_.out (by kernel_rfl)) (by decide) (fun K hK => ?_)
    refine box_step ?hg (N := 5) ?hd (cs := #[.int .i8 0, .int .i8 0, .int .i8 0, .int .i8 0, .int .i8 0]) (t := 28) ?hr ?_; (case hd => rfl); (case hg => rfl); (case hr => exact zgs)
    intro gb120 hg w34 hbox hb
    have n_ : _ ∧ _ ∧ _ ∧ _ ∧ _ ∧ _ ∧ _ ∧ _ ∧ _ ∧ _ ∧ _ ∧ _ ∧ _ ∧ _ := ⟨Aside0.mk (IsS64.below (by repeat (first | (with_reducible first | exact HI0.out | apply IsS64.alloc | apply IsS64.drewN | apply IsS64.drew | apply IsS64.set_1 | apply IsS64.set_2 | refine IsS64.far ?_ NB0_112.out _ | refine IsS64.far ?_ NB0_113.out _) | exact HI0.out)) hb), zk BK112 hb, zk BK113 hb, Aside0.mk (KeepBut.trans (by repeat (first | (with_reducible first | exact HK.out | apply KeepBut.set_ | apply keep_drewN | apply keep_drew | apply keep_alloc | refine keep_far ?_ GW112.out _ | refine keep_far ?_ GW113.out _) | exact HK.out)) (KeepBut.of_below hb g none) (.inl rfl)), Aside0.mk (below_step (by repeat (first | (with_reducible first | exact HB.out | apply below_alloc | apply pw_below_drewN | apply below_drew1 | refine below_set ?_ (IsS64.ge HI0.out) | refine below_set ?_ GE112.out | refine below_set ?_ GE113.out) | exact HB.out)) hb), Aside0.mk (hbox), Aside0.mk ((by rw [hg]; exact (keep_size (w := w) (g := g) (row := none) (by repeat (first | (with_reducible first | exact HK.out | apply KeepBut.set_ | apply keep_drewN | apply keep_drew | apply keep_alloc | refine keep_far ?_ GW112.out _ | refine keep_far ?_ GW113.out _) | exact HK.out))) : w.heap.size ≤ gb120)), Aside0.mk ((Nat.le_trans HW0.out (by rw [hg]; exact (keep_size (w := w) (g := g) (row := none) (by repeat (first | (with_reducible first | exact HK.out | apply KeepBut.set_ | apply keep_drewN | apply keep_drew | apply keep_alloc | refine keep_far ?_ GW112.out _ | refine keep_far ?_ GW113.out _) | exact HK.out))) : w.heap.size ≤ gb120) : w0.heap.size ≤ gb120)), zn1 BK112 hg, zn2 BK112 hg, zn1 BK113 hg, zn2 BK113 hg, Aside0.mk ((by rw [hg]; exact Nat.ne_of_lt (IsS64.lt (show IsS64 w0 _ g s0_0 t118 t119 from by repeat (first | (with_reducible first | exact HI0.out | apply IsS64.alloc | apply IsS64.drewN | apply IsS64.drew | apply IsS64.set_1 | apply IsS64.set_2 | refine IsS64.far ?_ NB0_112.out _ | refine IsS64.far ?_ NB0_113.out _) | exact HI0.out))) : g ≠ gb120)), Aside0.mk ((by rw [hg]; exact Nat.ne_of_gt (IsS64.lt (show IsS64 w0 _ g s0_0 t118 t119 from by repeat (first | (with_reducible first | exact HI0.out | apply IsS64.alloc | apply IsS64.drewN | apply IsS64.drew | apply IsS64.set_1 | apply IsS64.set_2 | refine IsS64.far ?_ NB0_112.out _ | refine IsS64.far ?_ NB0_113.out _) | exact HI0.out))) : gb120 ≠ g))⟩
    clear HI0 BK112 BK113 HK HB
    obtain ⟨HI0, BK112, BK113, HK, HB, BK120, GW120, GE120, NB112_120, NB120_112, NB113_120, NB120_113, NB0_120, NB120_0⟩ := n_
    clear hb hbox hg
    refine hK.out _ _ ⟨(blk_cell BK112.out 0).trans rfl, (blk_cell BK112.out 1).trans rfl⟩ (fun hHeld => ?_)
    clear hK K
    refine norm_ (a' := ?_) ?_ ?_
    rotate_left
    ·show Act.put _ (some 5) _ = _
     exact zap
    exact norm_ (by simp only [putAll, Act.put, List.setIfInBounds_toArray, List.set_cons_zero, List.set_cons_succ]) (hCont (gb120) _ ⟨hHeld, (zh BK112).out, (zh BK113).out, (zh BK120).out, GW120.out, GE120.out, NB0_120.out, NB120_0.out, NB112_120.out, NB120_112.out, NB113_120.out, NB120_113.out, (by repeat (first | (with_reducible first | exact HI0.out | apply IsS64.alloc | apply IsS64.drewN | apply IsS64.drew | apply IsS64.set_1 | apply IsS64.set_2 | refine IsS64.far ?_ NB0_112.out _ | refine IsS64.far ?_ NB0_113.out _ | refine IsS64.far ?_ NB0_120.out _) | exact HI0.out)), (by repeat (first | (with_reducible first | exact HK.out | apply KeepBut.set_ | apply keep_drewN | apply keep_drew | apply keep_alloc | refine keep_far ?_ GW112.out _ | refine keep_far ?_ GW113.out _ | refine keep_far ?_ GW120.out _) | exact HK.out)), (by repeat (first | (with_reducible first | exact HB.out | apply below_alloc | apply pw_below_drewN | apply below_drew1 | refine below_set ?_ (IsS64.ge HI0.out) | refine below_set ?_ GE112.out | refine below_set ?_ GE113.out | refine below_set ?_ GE120.out) | exact HB.out))⟩)
   skip
   refine box_step ?hg (N := 5) ?hd (cs := #[.int .i8 0, .int .i8 0, .int .i8 0, .int .i8 0, .int .i8 0]) (t := 28) ?hr ?_; (case hd => rfl); (case hg => rfl); (case hr => exact zgs)
   intro gb120 hg w33 hbox hb
   have n_ : _ ∧ _ ∧ _ ∧ _ ∧ _ ∧ _ ∧ _ ∧ _ ∧ _ ∧ _ ∧ _ ∧ _ ∧ _ ∧ _ := ⟨Aside0.mk (IsS64.below (by repeat (first | (with_reducible first | exact HI0.out | apply IsS64.alloc | apply IsS64.drewN | apply IsS64.drew | apply IsS64.set_1 | apply IsS64.set_2 | refine IsS64.far ?_ NB0_112.out _ | refine IsS64.far ?_ NB0_113.out _) | exact HI0.out)) hb), zk BK112 hb, zk BK113 hb, Aside0.mk (KeepBut.trans (by repeat (first | (with_reducible first | exact HK.out | apply KeepBut.set_ | apply keep_drewN | apply keep_drew | apply keep_alloc | refine keep_far ?_ GW112.out _ | refine keep_far ?_ GW113.out _) | exact HK.out)) (KeepBut.of_below hb g none) (.inl rfl)), Aside0.mk (below_step (by repeat (first | (with_reducible first | exact HB.out | apply below_alloc | apply pw_below_drewN | apply below_drew1 | refine below_set ?_ (IsS64.ge HI0.out) | refine below_set ?_ GE112.out | refine below_set ?_ GE113.out) | exact HB.out)) hb), Aside0.mk (hbox), Aside0.mk ((by rw [hg]; exact (keep_size (w := w) (g := g) (row := none) (by repeat (first | (with_reducible first | exact HK.out | apply KeepBut.set_ | apply keep_drewN | apply keep_drew | apply keep_alloc | refine keep_far ?_ GW112.out _ | refine keep_far ?_ GW113.out _) | exact HK.out))) : w.heap.size ≤ gb120)), Aside0.mk ((Nat.le_trans HW0.out (by rw [hg]; exact (keep_size (w := w) (g := g) (row := none) (by repeat (first | (with_reducible first | exact HK.out | apply KeepBut.set_ | apply keep_drewN | apply keep_drew | apply keep_alloc | refine keep_far ?_ GW112.out _ | refine keep_far ?_ GW113.out _) | exact HK.out))) : w.heap.size ≤ gb120) : w0.heap.size ≤ gb120)), zn1 BK112 hg, zn2 BK112 hg, zn1 BK113 hg, zn2 BK113 hg, Aside0.mk ((by rw [hg]; exact Nat.ne_of_lt (IsS64.lt (show IsS64 w0 _ g s0_0 t115 t116 from by repeat (first | (with_reducible first | exact HI0.out | apply IsS64.alloc | apply IsS64.drewN | apply IsS64.drew | apply IsS64.set_1 | apply IsS64.set_2 | refine IsS64.far ?_ NB0_112.out _ | refine IsS64.far ?_ NB0_113.out _) | exact HI0.out))) : g ≠ gb120)), Aside0.mk ((by rw [hg]; exact Nat.ne_of_gt (IsS64.lt (show IsS64 w0 _ g s0_0 t115 t116 from by repeat (first | (with_reducible first | exact HI0.out | apply IsS64.alloc | apply IsS64.drewN | apply IsS64.drew | apply IsS64.set_1 | apply IsS64.set_2 | refine IsS64.far ?_ NB0_112.out _ | refine IsS64.far ?_ NB0_113.out _) | exact HI0.out))) : gb120 ≠ g))⟩
   clear HI0 BK112 BK113 HK HB
   obtain ⟨HI0, BK112, BK113, HK, HB, BK120, GW120, GE120, NB112_120, NB120_112, NB113_120, NB120_113, NB0_120, NB120_0⟩ := n_
   clear hb hbox hg
   refine hK.out _ _ ⟨(blk_cell BK112.out 0).trans rfl, (blk_cell BK112.out 1).trans rfl⟩ (fun hHeld => ?_)
   clear hK K
   refine norm_ (a' := ?_) ?_ ?_
   rotate_left
   ·show Act.put _ (some 5) _ = _
    exact zap
   refine one_ (i := 5) (N := some 11) (zq 10 319) rfl rfl (one_of HT_.out (by kernel_rfl)) (by decide) (fun K hK => ?_)
   refine goes_ Try.func17 (by kernel_rfl) rfl #[.pointer (some ⟨g, 0, none⟩), .int .i64 4] (by rfl) rfl rfl zm ?_
   with_reducible refine (spec_l00Src_pick.calls g s0_0 t115 t116 4 t117 t118 t119 w0 _ ?side1 ?side2 A4.out).mono ?_
   (case side1 => repeat (first | (with_reducible first | exact HI0.out | apply IsS64.alloc | apply IsS64.drewN | apply IsS64.drew | apply IsS64.set_1 | apply IsS64.set_2 | refine IsS64.far ?_ NB0_112.out _ | refine IsS64.far ?_ NB0_113.out _ | refine IsS64.far ?_ NB0_120.out _) | exact HI0.out))
   (case side2 => repeat (first | (with_reducible first | exact HB.out | apply below_alloc | apply pw_below_drewN | apply below_drew1 | refine below_set ?_ (IsS64.ge HI0.out) | refine below_set ?_ GE112.out | refine below_set ?_ GE113.out | refine below_set ?_ GE120.out) | exact HB.out))
   rintro e w34 ⟨rfl, hi, hb, hk⟩
   refine ⟨_, rfl, ?_⟩
   have n_ : _ ∧ _ ∧ _ ∧ _ ∧ _ ∧ _ := ⟨Aside0.mk (KeepBut.blk hk (g' := gb112) (o := .cells #[.int .i8 a1_0, .int .i8 a1_1] 26 (0, 0)) (zh BK112).out NB112_0.out (by simp)), Aside0.mk (KeepBut.blk hk (g' := gb113) (o := .cells #[.int .i8 0, .int .i8 0, .int .i8 0, .int .i8 0, .int .i8 0] 28 (0, 0)) (zh BK113).out NB113_0.out (by simp)), Aside0.mk (KeepBut.blk hk (g' := gb120) (o := .cells #[.int .i8 0, .int .i8 0, .int .i8 0, .int .i8 0, .int .i8 0] 28 (0, 0)) (zh BK120).out NB120_0.out (by simp)), Aside0.mk (KeepBut.trans (by repeat (first | (with_reducible first | exact HK.out | apply KeepBut.set_ | apply keep_drewN | apply keep_drew | apply keep_alloc | refine keep_far ?_ GW112.out _ | refine keep_far ?_ GW113.out _ | refine keep_far ?_ GW120.out _) | exact HK.out)) hk (.inl rfl)), Aside0.mk (hb), Aside0.mk (hi)⟩
   clear BK112 BK113 BK120 HK HB HI0
   obtain ⟨BK112, BK113, BK120, HK, HB, HI0⟩ := n_
   (try clear hb)
   (try clear hb2)
   (try clear hk)
   (try clear hi)
   refine hK.out _ _ ⟨(blk_cell BK112.out 0).trans rfl, (blk_cell BK112.out 1).trans rfl⟩ (fun hHeld => ?_)
   clear hK K
   refine norm_ (a' := ?_) ?_ ?_
   rotate_left
   ·show Act.put _ (some 11) _ = _
    exact zap
   refine zpu 6 (some 12) (zq 10 383) HT_ ?_
   refine zpu 7 (some 13) (zq 10 511) HT_ ?_
   exact norm_ (by simp only [putAll, Act.put, List.setIfInBounds_toArray, List.set_cons_zero, List.set_cons_succ]) (hCont (gb120) _ ⟨hHeld, (zh BK112).out, (zh BK113).out, (zh BK120).out, GW120.out, GE120.out, NB0_120.out, NB120_0.out, NB112_120.out, NB120_112.out, NB113_120.out, NB120_113.out, (by repeat (first | (with_reducible first | exact HI0.out | apply IsS64.alloc | apply IsS64.drewN | apply IsS64.drew | apply IsS64.set_1 | apply IsS64.set_2 | refine IsS64.far ?_ NB0_112.out _ | refine IsS64.far ?_ NB0_113.out _ | refine IsS64.far ?_ NB0_120.out _) | exact HI0.out)), (by repeat (first | (with_reducible first | exact HK.out | apply KeepBut.set_ | apply keep_drewN | apply keep_drew | apply keep_alloc | refine keep_far ?_ GW112.out _ | refine keep_far ?_ GW113.out _ | refine keep_far ?_ GW120.out _) | exact HK.out)), (by repeat (first | (with_reducible first | exact HB.out | apply below_alloc | apply pw_below_drewN | apply below_drew1 | refine below_set ?_ (IsS64.ge HI0.out) | refine below_set ?_ GE112.out | refine below_set ?_ GE113.out | refine below_set ?_ GE120.out) | exact HB.out))⟩)
  rintro gb120 w35 ⟨hS_, h0_, h1_, h2_, h3_, h4_, h5_, h6_, h7_, h8_, h9_, h10_, h11_, h12_, h13_⟩
  have n_ : (Aside0 (w35.heap[gb112]? = some (.cells #[.int .i8 a1_0, .int .i8 a1_1] 26 (0, 0)))) ∧ (Aside0 (w35.heap[gb113]? = some (.cells #[.int .i8 0, .int .i8 0, .int .i8 0, .int .i8 0, .int .i8 0] 28 (0, 0)))) ∧ (Aside0 (w35.heap[gb120]? = some (.cells #[.int .i8 0, .int .i8 0, .int .i8 0, .int .i8 0, .int .i8 0] 28 (0, 0)))) ∧ (Aside0 (w.heap.size ≤ gb120)) ∧ (Aside0 (w0.heap.size ≤ gb120)) ∧ (Aside0 (g ≠ gb120)) ∧ (Aside0 (gb120 ≠ g)) ∧ (Aside0 (gb112 ≠ gb120)) ∧ (Aside0 (gb120 ≠ gb112)) ∧ (Aside0 (gb113 ≠ gb120)) ∧ (Aside0 (gb120 ≠ gb113)) ∧ (Aside0 (IsS64 w0 w35 g s0_0 t118 t119)) ∧ (Aside0 (KeepBut w w35 g none)) ∧ (Aside0 (Below w0.heap.size w0 w35)) := ⟨⟨h0_⟩, ⟨h1_⟩, ⟨h2_⟩, ⟨h3_⟩, ⟨h4_⟩, ⟨h5_⟩, ⟨h6_⟩, ⟨h7_⟩, ⟨h8_⟩, ⟨h9_⟩, ⟨h10_⟩, ⟨h11_⟩, ⟨h12_⟩, ⟨h13_⟩⟩
  clear BK112 BK113 HI0 HK HB h0_ h1_ h2_ h3_ h4_ h5_ h6_ h7_ h8_ h9_ h10_ h11_ h12_ h13_
  obtain ⟨BK112, BK113, BK120, GW120, GE120, NB0_120, NB120_0, NB112_120, NB120_112, NB113_120, NB120_113, HI0, HK, HB⟩ := n_
  have hHeld := hS_
  refine norm_ (a' := ?_) ?_ ?_
  rotate_left
  ·simp only [putAll, Act.put, List.setIfInBounds_toArray, List.set_cons_zero, List.set_cons_succ]
   rfl
  refine one_ (i := 9) (N := none) (zq 10 1023) rfl rfl (one_of HT_.out (by kernel_rfl)) (by decide) (fun K hK => ?_)
  have hs36 : w35.cell? ⟨gb120, 0, none⟩ = some (.int .i8 0) := (blk_cell BK120.out 0).trans rfl
  have hfs36 := blk_frozen BK120.out 0
  have hns36_0 := NB112_120.out
  have hns36_1 := NB113_120.out
  have hms36_0 := NB120_112.out
  have hms36_1 := NB120_113.out
  have hs37 : w35.cell? ⟨gb120, 1, none⟩ = some (.int .i8 0) := (blk_cell BK120.out 1).trans rfl
  have hfs37 := blk_frozen BK120.out 1
  have hns37_0 := NB112_120.out
  have hns37_1 := NB113_120.out
  have hms37_0 := NB120_112.out
  have hms37_1 := NB120_113.out
  have hs38 : w35.cell? ⟨gb120, 2, none⟩ = some (.int .i8 0) := (blk_cell BK120.out 2).trans rfl
  have hfs38 := blk_frozen BK120.out 2
  have hns38_0 := NB112_120.out
  have hns38_1 := NB113_120.out
  have hms38_0 := NB120_112.out
  have hms38_1 := NB120_113.out
  have hs39 : w35.cell? ⟨gb120, 3, none⟩ = some (.int .i8 0) := (blk_cell BK120.out 3).trans rfl
  have hfs39 := blk_frozen BK120.out 3
  have hns39_0 := NB112_120.out
  have hns39_1 := NB113_120.out
  have hms39_0 := NB120_112.out
  have hms39_1 := NB120_113.out
  have hs40 : w35.cell? ⟨gb120, 4, none⟩ = some (.int .i8 0) := (blk_cell BK120.out 4).trans rfl
  have hfs40 := blk_frozen BK120.out 4
  have hns40_0 := NB112_120.out
  have hns40_1 := NB113_120.out
  have hms40_0 := NB120_112.out
  have hms40_1 := NB120_113.out
  refine skip_ (w1 := ?_) (by rfl) rfl ?_ ?_
  rotate_left
  ·go_simp
   rfl
  refine hK.out _ _ ⟨((cell_far (p := ⟨gb120, _, none⟩) NB112_120.out _).trans (((cell_far (p := ⟨gb120, _, none⟩) NB112_120.out _).trans (((cell_far (p := ⟨gb120, _, none⟩) NB112_120.out _).trans (((cell_far (p := ⟨gb120, _, none⟩) NB112_120.out _).trans (((cell_far (p := ⟨gb120, _, none⟩) NB112_120.out _).trans (hHeld.1)))))))))), ((cell_far (p := ⟨gb120, _, none⟩) NB112_120.out _).trans (((cell_far (p := ⟨gb120, _, none⟩) NB112_120.out _).trans (((cell_far (p := ⟨gb120, _, none⟩) NB112_120.out _).trans (((cell_far (p := ⟨gb120, _, none⟩) NB112_120.out _).trans (((cell_far (p := ⟨gb120, _, none⟩) NB112_120.out _).trans (hHeld.2))))))))))⟩ (fun hHeld => ?_)
  clear hK K
  refine done_ (done_of HT_.out (by kernel_rfl)) ?_
  try go_wp2_with (first | ((with_reducible refine gate_callee (f := 35) rfl ?_); refine goesL_ (some 15) rfl rfl Try.func35 (by kernel_rfl) rfl #[.pointer (some ⟨g, 0, none⟩), .int .i64 3] rfl zm ?_; (with_reducible refine (spec_l00Src_one.calls g s0_0 t118 t119 3 false t122 t123 w0 _ ?side1 ?side2 A5.out).mono ?_); (case side1 => repeat (first | (with_reducible first | exact HI0.out | apply IsS64.alloc | apply IsS64.drewN | apply IsS64.drew | apply IsS64.set_1 | apply IsS64.set_2 | refine IsS64.far ?_ NB0_112.out _ | refine IsS64.far ?_ NB0_113.out _ | refine IsS64.far ?_ NB0_120.out _) | exact HI0.out)); (case side2 => repeat (first | (with_reducible first | exact HB.out | apply below_alloc | apply pw_below_drewN | apply below_drew1 | refine below_set ?_ (IsS64.ge HI0.out) | refine below_set ?_ GE112.out | refine below_set ?_ GE113.out | refine below_set ?_ GE120.out) | exact HB.out)); rintro e w41 ⟨rfl, hi, hb, hk⟩; refine ⟨_, rfl, ?_⟩; have n_ : _ ∧ _ ∧ _ ∧ _ ∧ _ ∧ _ := ⟨Aside0.mk (KeepBut.blk hk (g' := gb112) (o := .cells #[.int .i8 a1_0, .int .i8 a1_1] 26 (0, 0)) (zf BK112 NB112_120).out NB112_0.out (by simp)), Aside0.mk (KeepBut.blk hk (g' := gb113) (o := .cells #[.int .i8 0, .int .i8 0, .int .i8 0, .int .i8 0, .int .i8 0] 28 (0, 0)) (zf BK113 NB113_120).out NB113_0.out (by simp)), Aside0.mk (KeepBut.blk hk (g' := gb120) (o := .cells #[.int .i8 a1_0, .int .i8 a1_1, .int .i8 (IntKind.i8.wrap (t114)), .int .i8 (IntKind.i8.wrap (t117)), .int .i8 1] 28 (0, 0)) (zp BK120) NB120_0.out (by simp)), Aside0.mk (KeepBut.trans (by repeat (first | (with_reducible first | exact HK.out | apply KeepBut.set_ | apply keep_drewN | apply keep_drew | apply keep_alloc | refine keep_far ?_ GW112.out _ | refine keep_far ?_ GW113.out _ | refine keep_far ?_ GW120.out _) | exact HK.out)) hk (.inl rfl)), Aside0.mk (hb), Aside0.mk (hi)⟩; clear BK112 BK113 BK120 HK HB HI0; obtain ⟨BK112, BK113, BK120, HK, HB, HI0⟩ := n_; (try clear hb); (try clear hb2); (try clear hk); (try clear hi); have hnb42 := NB120_112.out; have hnc42 := NB112_120.out; have hnb43 := NB120_113.out; have hnc43 := NB113_120.out; have hnb44 := NB120_0.out; have hnc44 := NB0_120.out; obtain ⟨z45_0, z45_1, z45_2, z45_3, z45_4, y45_0, y45_1, y45_2, y45_3, y45_4⟩ := zB5 BK120; have hnb46 := NB113_112.out; have hnc46 := NB112_113.out; have hnb47 := NB113_0.out; have hnc47 := NB0_113.out; obtain ⟨z48_0, z48_1, z48_2, z48_3, z48_4, y48_0, y48_1, y48_2, y48_3, y48_4⟩ := zB5 BK113))
  refine bodyPost_ret (results_cell_row rfl _ _ gb113 28 #[.int .i8 a1_0, .int .i8 a1_1, .int .i8 (IntKind.i8.wrap (t114)), .int .i8 (IntKind.i8.wrap (t117)), .int .i8 1] (0, 0) _ rfl (zp BK113) Try.underlying28 rfl (by kernel_rfl)) rfl ?_
  exact ⟨zv, by repeat (first | (with_reducible first | exact HI0.out | apply IsS64.alloc | apply IsS64.drewN | apply IsS64.drew | apply IsS64.set_1 | apply IsS64.set_2 | refine IsS64.far ?_ NB0_112.out _ | refine IsS64.far ?_ NB0_113.out _ | refine IsS64.far ?_ NB0_120.out _) | exact HI0.out), by repeat (first | (with_reducible first | exact HB.out | apply below_alloc | apply pw_below_drewN | apply below_drew1 | refine below_set ?_ (IsS64.ge HI0.out) | refine below_set ?_ GE112.out | refine below_set ?_ GE113.out | refine below_set ?_ GE120.out) | exact HB.out), by repeat (first | (with_reducible first | exact HK.out | apply KeepBut.set_ | apply keep_drewN | apply keep_drew | apply keep_alloc | refine keep_far ?_ GW112.out _ | refine keep_far ?_ GW113.out _ | refine keep_far ?_ GW120.out _) | exact HK.out)⟩
 subst c6
 have H1 : ((spec_l00Src_pick.f s0_0 t122 t123 4).bind fun bt124 => (some (a1_0, a1_1, IntKind.i8.wrap (t114), IntKind.i8.wrap (t117), IntKind.i8.wrap (wrap64 (1 + bt124.1)), bt124.2.1, bt124.2.2))) = some (r1, r2, r3, r4, r5, r6, r7) := by rw [if_pos rfl] at H; exact H
 clear H
 have H := H1
 clear H1
 replace H := zob H
 obtain ⟨⟨t124, t125, t126⟩, A70, H⟩ := H
 replace H : (some (a1_0, a1_1, IntKind.i8.wrap (t114), IntKind.i8.wrap (t117), IntKind.i8.wrap (wrap64 (1 + t124)), t125, t126)) = some (r1, r2, r3, r4, r5, r6, r7) := H
 have A7 := Aside0.mk A70
 clear A70
 simp only [Option.some.injEq, Prod.mk.injEq] at H
 obtain ⟨rfl, rfl, rfl, rfl, rfl, rfl, rfl⟩ := H
 go_enter Try.func18, Try.ntmps18
 try go_wp2_with (first | ((with_reducible refine gate_dst (N := 3) rfl ?_); refine zbx 3 #[.int .i8 a1_0, .int .i8 a1_1] 26 ?_; intro gb112 hg w8 hbox hb; have n_ : _ ∧ _ ∧ _ ∧ _ ∧ _ ∧ _ ∧ _ ∧ _ := ⟨Aside0.mk (IsS64.below (by repeat (first | (with_reducible first | exact HI0.out | apply IsS64.alloc | apply IsS64.drewN | apply IsS64.drew | apply IsS64.set_1 | apply IsS64.set_2) | exact HI0.out)) hb), Aside0.mk (KeepBut.trans (by repeat (first | (with_reducible first | exact HK.out | apply KeepBut.set_ | apply keep_drewN | apply keep_drew | apply keep_alloc) | exact HK.out)) (KeepBut.of_below hb g none) (.inl rfl)), Aside0.mk (below_step (by repeat (first | (with_reducible first | exact HB.out | apply below_alloc | apply pw_below_drewN | apply below_drew1 | refine below_set ?_ (IsS64.ge HI0.out)) | exact HB.out)) hb), Aside0.mk (hbox), Aside0.mk ((by rw [hg]; exact (keep_size (w := w) (g := g) (row := none) (by repeat (first | (with_reducible first | exact HK.out | apply KeepBut.set_ | apply keep_drewN | apply keep_drew | apply keep_alloc) | exact HK.out))) : w.heap.size ≤ gb112)), Aside0.mk ((Nat.le_trans HW0.out (by rw [hg]; exact (keep_size (w := w) (g := g) (row := none) (by repeat (first | (with_reducible first | exact HK.out | apply KeepBut.set_ | apply keep_drewN | apply keep_drew | apply keep_alloc) | exact HK.out))) : w.heap.size ≤ gb112) : w0.heap.size ≤ gb112)), Aside0.mk ((by rw [hg]; exact Nat.ne_of_lt (IsS64.lt (show IsS64 w0 _ g s0_0 s0_1 s0_2 from by repeat (first | (with_reducible first | exact HI0.out | apply IsS64.alloc | apply IsS64.drewN | apply IsS64.drew | apply IsS64.set_1 | apply IsS64.set_2) | exact HI0.out))) : g ≠ gb112)), Aside0.mk ((by rw [hg]; exact Nat.ne_of_gt (IsS64.lt (show IsS64 w0 _ g s0_0 s0_1 s0_2 from by repeat (first | (with_reducible first | exact HI0.out | apply IsS64.alloc | apply IsS64.drewN | apply IsS64.drew | apply IsS64.set_1 | apply IsS64.set_2) | exact HI0.out))) : gb112 ≠ g))⟩; clear HI0 HK HB; obtain ⟨HI0, HK, HB, BK112, GW112, GE112, NB0_112, NB112_0⟩ := n_; clear hb hbox hg) | ((with_reducible refine gate_dst (N := 4) rfl ?_); refine zbx 4 #[.int .i8 0, .int .i8 0, .int .i8 0, .int .i8 0, .int .i8 0] 28 ?_; intro gb113 hg w9 hbox hb; have n_ : _ ∧ _ ∧ _ ∧ _ ∧ _ ∧ _ ∧ _ ∧ _ ∧ _ ∧ _ ∧ _ := ⟨Aside0.mk (IsS64.below (by repeat (first | (with_reducible first | exact HI0.out | apply IsS64.alloc | apply IsS64.drewN | apply IsS64.drew | apply IsS64.set_1 | apply IsS64.set_2 | refine IsS64.far ?_ NB0_112.out _) | exact HI0.out)) hb), zk BK112 hb, Aside0.mk (KeepBut.trans (by repeat (first | (with_reducible first | exact HK.out | apply KeepBut.set_ | apply keep_drewN | apply keep_drew | apply keep_alloc | refine keep_far ?_ GW112.out _) | exact HK.out)) (KeepBut.of_below hb g none) (.inl rfl)), Aside0.mk (below_step (by repeat (first | (with_reducible first | exact HB.out | apply below_alloc | apply pw_below_drewN | apply below_drew1 | refine below_set ?_ (IsS64.ge HI0.out) | refine below_set ?_ GE112.out) | exact HB.out)) hb), Aside0.mk (hbox), Aside0.mk ((by rw [hg]; exact (keep_size (w := w) (g := g) (row := none) (by repeat (first | (with_reducible first | exact HK.out | apply KeepBut.set_ | apply keep_drewN | apply keep_drew | apply keep_alloc | refine keep_far ?_ GW112.out _) | exact HK.out))) : w.heap.size ≤ gb113)), Aside0.mk ((Nat.le_trans HW0.out (by rw [hg]; exact (keep_size (w := w) (g := g) (row := none) (by repeat (first | (with_reducible first | exact HK.out | apply KeepBut.set_ | apply keep_drewN | apply keep_drew | apply keep_alloc | refine keep_far ?_ GW112.out _) | exact HK.out))) : w.heap.size ≤ gb113) : w0.heap.size ≤ gb113)), zn1 BK112 hg, zn2 BK112 hg, Aside0.mk ((by rw [hg]; exact Nat.ne_of_lt (IsS64.lt (show IsS64 w0 _ g s0_0 s0_1 s0_2 from by repeat (first | (with_reducible first | exact HI0.out | apply IsS64.alloc | apply IsS64.drewN | apply IsS64.drew | apply IsS64.set_1 | apply IsS64.set_2 | refine IsS64.far ?_ NB0_112.out _) | exact HI0.out))) : g ≠ gb113)), Aside0.mk ((by rw [hg]; exact Nat.ne_of_gt (IsS64.lt (show IsS64 w0 _ g s0_0 s0_1 s0_2 from by repeat (first | (with_reducible first | exact HI0.out | apply IsS64.alloc | apply IsS64.drewN | apply IsS64.drew | apply IsS64.set_1 | apply IsS64.set_2 | refine IsS64.far ?_ NB0_112.out _) | exact HI0.out))) : gb113 ≠ g))⟩; clear HI0 BK112 HK HB; obtain ⟨HI0, BK112, HK, HB, BK113, GW113, GE113, NB112_113, NB113_112, NB0_113, NB113_0⟩ := n_; clear hb hbox hg))
 have n_ : _ ∧ _ ∧ _ ∧ _ ∧ _ := ⟨Aside0.mk (blk_drew BK112.out), Aside0.mk (blk_drew BK113.out), Aside0.mk (IsS64.drew HI0.out), Aside0.mk (keep_drew HK.out), Aside0.mk (below_drew1 HB.out)⟩
 clear BK112 BK113 HI0 HK HB
 obtain ⟨BK112, BK113, HI0, HK, HB⟩ := n_
 refine start_ (n := 10) (S := fun w' => w'.cell? ⟨gb112, 0, none⟩ = some (.int .i8 a1_0) ∧ w'.cell? ⟨gb112, 1, none⟩ = some (.int .i8 a1_1)) (ds := []) (zq 10 0) (by kernel_rfl) rfl rfl ⟨(blk_cell BK112.out 0).trans rfl, (blk_cell BK112.out 1).trans rfl⟩ (fun hHeld => ?_); refine with_tabW spec_l01PieceDrawn.tab1 spec_l01PieceDrawn.bits1 (fun HT_ HW_ => ?_)
 generalize w9.drew = w10 at BK112 BK113 HI0 HK HB hHeld ⊢
 refine zpu 1 (some 7) (zq 10 2) HT_ ?_
 refine zpu 4 (some 10) (zq 10 18) HT_ ?_
 refine ztk 0 (some 6) (zq 10 19) HT_ HW_ rfl hHeld (Or.inl ⟨by rfl, by (rintro w' ⟨s0, s1⟩; go_simp; with_reducible rfl)⟩) ?_
 refine join_ (σ := Nat) 1 (zq 10 511) (fun s_ => [(8, .int .i64 t114), (11, .int .i64 t117), (5, .pointer (some ⟨s_, 0, none⟩)), (9, .int .i8 (IntKind.i8.wrap (t114))), (12, .int .i8 (IntKind.i8.wrap (t117))), (13, .agg #[.int .i8 a1_0, .int .i8 a1_1, .int .i8 (IntKind.i8.wrap (t114)), .int .i8 (IntKind.i8.wrap (t117)), .int .i8 1])]) (fun s_ w' => (w'.cell? ⟨gb112, 0, none⟩ = some (.int .i8 a1_0) ∧ w'.cell? ⟨gb112, 1, none⟩ = some (.int .i8 a1_1)) ∧ (w'.heap[gb112]? = some (.cells #[.int .i8 a1_0, .int .i8 a1_1] 26 (0, 0))) ∧ (w'.heap[gb113]? = some (.cells #[.int .i8 0, .int .i8 0, .int .i8 0, .int .i8 0, .int .i8 0] 28 (0, 0))) ∧ (w'.heap[s_]? = some (.cells #[.int .i8 0, .int .i8 0, .int .i8 0, .int .i8 0, .int .i8 0] 28 (0, 0))) ∧ (w.heap.size ≤ s_) ∧ (w0.heap.size ≤ s_) ∧ (g ≠ s_) ∧ (s_ ≠ g) ∧ (gb112 ≠ s_) ∧ (s_ ≠ gb112) ∧ (gb113 ≠ s_) ∧ (s_ ≠ gb113) ∧ (IsS64 w0 w' g s0_0 t118 t119) ∧ (KeepBut w w' g none) ∧ (Below w0.heap.size w0 w')) ?_ ?_
 rotate_left
 ·intro hCont
  refine two_ (i := 2) (j := 8) (Ni := some 8) (Nj := some 5) (zq 10 23) (zq 10 275) rfl rfl rfl rfl (two_of HT_.out (by kernel_rfl)) (by decide) (by decide) (fun K hK => ?_) (fun K hK => ?_)
  rotate_left
  ·skip
   refine box_step ?hg (N := 5) ?hd (cs := #[.int .i8 0, .int .i8 0, .int .i8 0, .int .i8 0, .int .i8 0]) (t := 28) ?hr ?_; (case hd => rfl); (case hg => rfl); (case hr => exact zgs)
   intro gb120 hg w11 hbox hb
   have n_ : _ ∧ _ ∧ _ ∧ _ ∧ _ ∧ _ ∧ _ ∧ _ ∧ _ ∧ _ ∧ _ ∧ _ ∧ _ ∧ _ := ⟨Aside0.mk (IsS64.below (by repeat (first | (with_reducible first | exact HI0.out | apply IsS64.alloc | apply IsS64.drewN | apply IsS64.drew | apply IsS64.set_1 | apply IsS64.set_2 | refine IsS64.far ?_ NB0_112.out _ | refine IsS64.far ?_ NB0_113.out _) | exact HI0.out)) hb), zk BK112 hb, zk BK113 hb, Aside0.mk (KeepBut.trans (by repeat (first | (with_reducible first | exact HK.out | apply KeepBut.set_ | apply keep_drewN | apply keep_drew | apply keep_alloc | refine keep_far ?_ GW112.out _ | refine keep_far ?_ GW113.out _) | exact HK.out)) (KeepBut.of_below hb g none) (.inl rfl)), Aside0.mk (below_step (by repeat (first | (with_reducible first | exact HB.out | apply below_alloc | apply pw_below_drewN | apply below_drew1 | refine below_set ?_ (IsS64.ge HI0.out) | refine below_set ?_ GE112.out | refine below_set ?_ GE113.out) | exact HB.out)) hb), Aside0.mk (hbox), Aside0.mk ((by rw [hg]; exact (keep_size (w := w) (g := g) (row := none) (by repeat (first | (with_reducible first | exact HK.out | apply KeepBut.set_ | apply keep_drewN | apply keep_drew | apply keep_alloc | refine keep_far ?_ GW112.out _ | refine keep_far ?_ GW113.out _) | exact HK.out))) : w.heap.size ≤ gb120)), Aside0.mk ((Nat.le_trans HW0.out (by rw [hg]; exact (keep_size (w := w) (g := g) (row := none) (by repeat (first | (with_reducible first | exact HK.out | apply KeepBut.set_ | apply keep_drewN | apply keep_drew | apply keep_alloc | refine keep_far ?_ GW112.out _ | refine keep_far ?_ GW113.out _) | exact HK.out))) : w.heap.size ≤ gb120) : w0.heap.size ≤ gb120)), zn1 BK112 hg, zn2 BK112 hg, zn1 BK113 hg, zn2 BK113 hg, Aside0.mk ((by rw [hg]; exact Nat.ne_of_lt (IsS64.lt (show IsS64 w0 _ g s0_0 s0_1 s0_2 from by repeat (first | (with_reducible first | exact HI0.out | apply IsS64.alloc | apply IsS64.drewN | apply IsS64.drew | apply IsS64.set_1 | apply IsS64.set_2 | refine IsS64.far ?_ NB0_112.out _ | refine IsS64.far ?_ NB0_113.out _) | exact HI0.out))) : g ≠ gb120)), Aside0.mk ((by rw [hg]; exact Nat.ne_of_gt (IsS64.lt (show IsS64 w0 _ g s0_0 s0_1 s0_2 from by repeat (first | (with_reducible first | exact HI0.out | apply IsS64.alloc | apply IsS64.drewN | apply IsS64.drew | apply IsS64.set_1 | apply IsS64.set_2 | refine IsS64.far ?_ NB0_112.out _ | refine IsS64.far ?_ NB0_113.out _) | exact HI0.out))) : gb120 ≠ g))⟩
   clear HI0 BK112 BK113 HK HB
   obtain ⟨HI0, BK112, BK113, HK, HB, BK120, GW120, GE120, NB112_120, NB120_112, NB113_120, NB120_113, NB0_120, NB120_0⟩ := n_
   clear hb hbox hg
   refine hK.out _ _ ⟨(blk_cell BK112.out 0).trans rfl, (blk_cell BK112.out 1).trans rfl⟩ (fun hHeld => ?_)
   clear hK K
   refine norm_ (a' := ?_) ?_ ?_
   rotate_left
   ·show Act.put _ (some 5) _ = _
    exact zap
   refine one_ (i := 2) (N := some 8) (zq 10 279) rfl rfl (one_of HT_.out (by kernel_rfl)) (by decide) (fun K hK => ?_)
   refine goes_ Try.func17 (by kernel_rfl) rfl #[.pointer (some ⟨g, 0, none⟩), .int .i64 6] (by rfl) rfl rfl zm ?_
   with_reducible refine (spec_l00Src_pick.calls g s0_0 s0_1 s0_2 6 t114 t115 t116 w0 _ ?side1 ?side2 A3.out).mono ?_
   (case side1 => repeat (first | (with_reducible first | exact HI0.out | apply IsS64.alloc | apply IsS64.drewN | apply IsS64.drew | apply IsS64.set_1 | apply IsS64.set_2 | refine IsS64.far ?_ NB0_112.out _ | refine IsS64.far ?_ NB0_113.out _ | refine IsS64.far ?_ NB0_120.out _) | exact HI0.out))
   (case side2 => repeat (first | (with_reducible first | exact HB.out | apply below_alloc | apply pw_below_drewN | apply below_drew1 | refine below_set ?_ (IsS64.ge HI0.out) | refine below_set ?_ GE112.out | refine below_set ?_ GE113.out | refine below_set ?_ GE120.out) | exact HB.out))
   rintro e w12 ⟨rfl, hi, hb, hk⟩
   refine ⟨_, rfl, ?_⟩
   have n_ : _ ∧ _ ∧ _ ∧ _ ∧ _ ∧ _ := ⟨Aside0.mk (KeepBut.blk hk (g' := gb112) (o := .cells #[.int .i8 a1_0, .int .i8 a1_1] 26 (0, 0)) (zh BK112).out NB112_0.out (by simp)), Aside0.mk (KeepBut.blk hk (g' := gb113) (o := .cells #[.int .i8 0, .int .i8 0, .int .i8 0, .int .i8 0, .int .i8 0] 28 (0, 0)) (zh BK113).out NB113_0.out (by simp)), Aside0.mk (KeepBut.blk hk (g' := gb120) (o := .cells #[.int .i8 0, .int .i8 0, .int .i8 0, .int .i8 0, .int .i8 0] 28 (0, 0)) (zh BK120).out NB120_0.out (by simp)), Aside0.mk (KeepBut.trans (by repeat (first | (with_reducible first | exact HK.out | apply KeepBut.set_ | apply keep_drewN | apply keep_drew | apply keep_alloc | refine keep_far ?_ GW112.out _ | refine keep_far ?_ GW113.out _ | refine keep_far ?_ GW120.out _) | exact HK.out)) hk (.inl rfl)), Aside0.mk (hb), Aside0.mk (hi)⟩
   clear BK112 BK113 BK120 HK HB HI0
   obtain ⟨BK112, BK113, BK120, HK, HB, HI0⟩ := n_
   (try clear hb)
   (try clear hb2)
   (try clear hk)
   (try clear hi)
   refine hK.out _ _ ⟨(blk_cell BK112.out 0).trans rfl, (blk_cell BK112.out 1).trans rfl⟩ (fun hHeld => ?_)
   clear hK K
   refine norm_ (a' := ?_) ?_ ?_
   rotate_left
   ·show Act.put _ (some 8) _ = _
    exact zap
   refine zpu 3 (some 9) (zq 10 287) HT_ ?_
   refine one_ (i := 5) (N := some 11) (zq 10 319) rfl rfl (one_of HT_.out (by kernel_rfl)) (by decide) (fun K hK => ?_)
   refine goes_ Try.func17 (by kernel_rfl) rfl #[.pointer (some ⟨g, 0, none⟩), .int .i64 4] (by rfl) rfl rfl zm ?_
   with_reducible refine (spec_l00Src_pick.calls g s0_0 t115 t116 4 t117 t118 t119 w0 _ ?side1 ?side2 A4.out).mono ?_
   (case side1 => repeat (first | (with_reducible first | exact HI0.out | apply IsS64.alloc | apply IsS64.drewN | apply IsS64.drew | apply IsS64.set_1 | apply IsS64.set_2 | refine IsS64.far ?_ NB0_112.out _ | refine IsS64.far ?_ NB0_113.out _ | refine IsS64.far ?_ NB0_120.out _) | exact HI0.out))
   (case side2 => repeat (first | (with_reducible first | exact HB.out | apply below_alloc | apply pw_below_drewN | apply below_drew1 | refine below_set ?_ (IsS64.ge HI0.out) | refine below_set ?_ GE112.out | refine below_set ?_ GE113.out | refine below_set ?_ GE120.out) | exact HB.out))
   rintro e w13 ⟨rfl, hi, hb, hk⟩
   refine ⟨_, rfl, ?_⟩
   have n_ : _ ∧ _ ∧ _ ∧ _ ∧ _ ∧ _ := ⟨Aside0.mk (KeepBut.blk hk (g' := gb112) (o := .cells #[.int .i8 a1_0, .int .i8 a1_1] 26 (0, 0)) (zh BK112).out NB112_0.out (by simp)), Aside0.mk (KeepBut.blk hk (g' := gb113) (o := .cells #[.int .i8 0, .int .i8 0, .int .i8 0, .int .i8 0, .int .i8 0] 28 (0, 0)) (zh BK113).out NB113_0.out (by simp)), Aside0.mk (KeepBut.blk hk (g' := gb120) (o := .cells #[.int .i8 0, .int .i8 0, .int .i8 0, .int .i8 0, .int .i8 0] 28 (0, 0)) (zh BK120).out NB120_0.out (by simp)), Aside0.mk (KeepBut.trans (by repeat (first | (with_reducible first | exact HK.out | apply KeepBut.set_ | apply keep_drewN | apply keep_drew | apply keep_alloc | refine keep_far ?_ GW112.out _ | refine keep_far ?_ GW113.out _ | refine keep_far ?_ GW120.out _) | exact HK.out)) hk (.inl rfl)), Aside0.mk (hb), Aside0.mk (hi)⟩
   clear BK112 BK113 BK120 HK HB HI0
   obtain ⟨BK112, BK113, BK120, HK, HB, HI0⟩ := n_
   (try clear hb)
   (try clear hb2)
   (try clear hk)
   (try clear hi)
   refine hK.out _ _ ⟨(blk_cell BK112.out 0).trans rfl, (blk_cell BK112.out 1).trans rfl⟩ (fun hHeld => ?_)
   clear hK K
   refine norm_ (a' := ?_) ?_ ?_
   rotate_left
   ·show Act.put _ (some 11) _ = _
    exact zap
   refine zpu 6 (some 12) (zq 10 383) HT_ ?_
   refine zpu 7 (some 13) (zq 10 511) HT_ ?_
   exact norm_ (by simp only [putAll, Act.put, List.setIfInBounds_toArray, List.set_cons_zero, List.set_cons_succ]) (hCont (gb120) _ ⟨hHeld, (zh BK112).out, (zh BK113).out, (zh BK120).out, GW120.out, GE120.out, NB0_120.out, NB120_0.out, NB112_120.out, NB120_112.out, NB113_120.out, NB120_113.out, (by repeat (first | (with_reducible first | exact HI0.out | apply IsS64.alloc | apply IsS64.drewN | apply IsS64.drew | apply IsS64.set_1 | apply IsS64.set_2 | refine IsS64.far ?_ NB0_112.out _ | refine IsS64.far ?_ NB0_113.out _ | refine IsS64.far ?_ NB0_120.out _) | exact HI0.out)), (by repeat (first | (with_reducible first | exact HK.out | apply KeepBut.set_ | apply keep_drewN | apply keep_drew | apply keep_alloc | refine keep_far ?_ GW112.out _ | refine keep_far ?_ GW113.out _ | refine keep_far ?_ GW120.out _) | exact HK.out)), (by repeat (first | (with_reducible first | exact HB.out | apply below_alloc | apply pw_below_drewN | apply below_drew1 | refine below_set ?_ (IsS64.ge HI0.out) | refine below_set ?_ GE112.out | refine below_set ?_ GE113.out | refine below_set ?_ GE120.out) | exact HB.out))⟩)
  skip
  refine goes_ Try.func17 (by kernel_rfl) rfl #[.pointer (some ⟨g, 0, none⟩), .int .i64 6] (by rfl) rfl rfl zm ?_
  with_reducible refine (spec_l00Src_pick.calls g s0_0 s0_1 s0_2 6 t114 t115 t116 w0 _ ?side1 ?side2 A3.out).mono ?_
  (case side1 => repeat (first | (with_reducible first | exact HI0.out | apply IsS64.alloc | apply IsS64.drewN | apply IsS64.drew | apply IsS64.set_1 | apply IsS64.set_2 | refine IsS64.far ?_ NB0_112.out _ | refine IsS64.far ?_ NB0_113.out _) | exact HI0.out))
  (case side2 => repeat (first | (with_reducible first | exact HB.out | apply below_alloc | apply pw_below_drewN | apply below_drew1 | refine below_set ?_ (IsS64.ge HI0.out) | refine below_set ?_ GE112.out | refine below_set ?_ GE113.out) | exact HB.out))
  rintro e w11 ⟨rfl, hi, hb, hk⟩
  refine ⟨_, rfl, ?_⟩
  have n_ : _ ∧ _ ∧ _ ∧ _ ∧ _ := ⟨Aside0.mk (KeepBut.blk hk (g' := gb112) (o := .cells #[.int .i8 a1_0, .int .i8 a1_1] 26 (0, 0)) (zh BK112).out NB112_0.out (by simp)), Aside0.mk (KeepBut.blk hk (g' := gb113) (o := .cells #[.int .i8 0, .int .i8 0, .int .i8 0, .int .i8 0, .int .i8 0] 28 (0, 0)) (zh BK113).out NB113_0.out (by simp)), Aside0.mk (KeepBut.trans (by repeat (first | (with_reducible first | exact HK.out | apply KeepBut.set_ | apply keep_drewN | apply keep_drew | apply keep_alloc | refine keep_far ?_ GW112.out _ | refine keep_far ?_ GW113.out _) | exact HK.out)) hk (.inl rfl)), Aside0.mk (hb), Aside0.mk (hi)⟩
  clear BK112 BK113 HK HB HI0
  obtain ⟨BK112, BK113, HK, HB, HI0⟩ := n_
  (try clear hb)
  (try clear hb2)
  (try clear hk)
  (try clear hi)
  refine hK.out _ _ ⟨(blk_cell BK112.out 0).trans rfl, (blk_cell BK112.out 1).trans rfl⟩ (fun hHeld => ?_)
  clear hK K
  refine norm_ (a' := ?_) ?_ ?_
  rotate_left
  ·show Act.put _ (some 8) _ = _
   exact zap
  refine zpu 3 (some 9) (zq 10 31) HT_ ?_
  refine two_ (i := 5) (j := 8) (Ni := some 11) (Nj := some 5) (zq 10 63) (zq 10 287) rfl rfl rfl rfl (two_of HT_.out (by kernel_rfl)) (by decide) (by decide) (fun K hK => ?_) (fun K hK => ?_)
  ·skip
   refine goes_ Try.func17 (by kernel_rfl) rfl #[.pointer (some ⟨g, 0, none⟩), .int .i64 4] (by rfl) rfl rfl zm ?_
   with_reducible refine (spec_l00Src_pick.calls g s0_0 t115 t116 4 t117 t118 t119 w0 _ ?side1 ?side2 A4.out).mono ?_
   (case side1 => repeat (first | (with_reducible first | exact HI0.out | apply IsS64.alloc | apply IsS64.drewN | apply IsS64.drew | apply IsS64.set_1 | apply IsS64.set_2 | refine IsS64.far ?_ NB0_112.out _ | refine IsS64.far ?_ NB0_113.out _) | exact HI0.out))
   (case side2 => repeat (first | (with_reducible first | exact HB.out | apply below_alloc | apply pw_below_drewN | apply below_drew1 | refine below_set ?_ (IsS64.ge HI0.out) | refine below_set ?_ GE112.out | refine below_set ?_ GE113.out) | exact HB.out))
   rintro e w12 ⟨rfl, hi, hb, hk⟩
   refine ⟨_, rfl, ?_⟩
   have n_ : _ ∧ _ ∧ _ ∧ _ ∧ _ := ⟨Aside0.mk (KeepBut.blk hk (g' := gb112) (o := .cells #[.int .i8 a1_0, .int .i8 a1_1] 26 (0, 0)) (zh BK112).out NB112_0.out (by simp)), Aside0.mk (KeepBut.blk hk (g' := gb113) (o := .cells #[.int .i8 0, .int .i8 0, .int .i8 0, .int .i8 0, .int .i8 0] 28 (0, 0)) (zh BK113).out NB113_0.out (by simp)), Aside0.mk (KeepBut.trans (by repeat (first | (with_reducible first | exact HK.out | apply KeepBut.set_ | apply keep_drewN | apply keep_drew | apply keep_alloc | refine keep_far ?_ GW112.out _ | refine keep_far ?_ GW113.out _) | exact HK.out)) hk (.inl rfl)), Aside0.mk (hb), Aside0.mk (hi)⟩
   clear BK112 BK113 HK HB HI0
   obtain ⟨BK112, BK113, HK, HB, HI0⟩ := n_
   (try clear hb)
   (try clear hb2)
   (try clear hk)
   (try clear hi)
   refine hK.out _ _ ⟨(blk_cell BK112.out 0).trans rfl, (blk_cell BK112.out 1).trans rfl⟩ (fun hHeld => ?_)
   clear hK K
   refine norm_ (a' := ?_) ?_ ?_
   rotate_left
   ·show Act.put _ (some 11) _ = _
    exact zap
   refine zpu 6 (some 12) (zq 10 127) HT_ ?_
   refine zpu 7 (some 13) (zq 10 255) HT_ ?_
   refine one_ (i := 8) (N := some 5) (zq 10 511) rfl rfl (one_of HT_.out (by kernel_rfl)) (by decide) (fun K hK => ?_)
   refine box_step ?hg (N := 5) ?hd (cs := #[.int .i8 0, .int .i8 0, .int .i8 0, .int .i8 0, .int .i8 0]) (t := 28) ?hr ?_; (case hd => rfl); (case hg => rfl); (case hr => exact zgs)
   intro gb120 hg w13 hbox hb
   have n_ : _ ∧ _ ∧ _ ∧ _ ∧ _ ∧ _ ∧ _ ∧ _ ∧ _ ∧ _ ∧ _ ∧ _ ∧ _ ∧ _ := ⟨Aside0.mk (IsS64.below (by repeat (first | (with_reducible first | exact HI0.out | apply IsS64.alloc | apply IsS64.drewN | apply IsS64.drew | apply IsS64.set_1 | apply IsS64.set_2 | refine IsS64.far ?_ NB0_112.out _ | refine IsS64.far ?_ NB0_113.out _) | exact HI0.out)) hb), zk BK112 hb, zk BK113 hb, Aside0.mk (KeepBut.trans (by repeat (first | (with_reducible first | exact HK.out | apply KeepBut.set_ | apply keep_drewN | apply keep_drew | apply keep_alloc | refine keep_far ?_ GW112.out _ | refine keep_far ?_ GW113.out _) | exact HK.out)) (KeepBut.of_below hb g none) (.inl rfl)), Aside0.mk (below_step (by repeat (first | (with_reducible first | exact HB.out | apply below_alloc | apply pw_below_drewN | apply below_drew1 | refine below_set ?_ (IsS64.ge HI0.out) | refine below_set ?_ GE112.out | refine below_set ?_ GE113.out) | exact HB.out)) hb), Aside0.mk (hbox), Aside0.mk ((by rw [hg]; exact (keep_size (w := w) (g := g) (row := none) (by repeat (first | (with_reducible first | exact HK.out | apply KeepBut.set_ | apply keep_drewN | apply keep_drew | apply keep_alloc | refine keep_far ?_ GW112.out _ | refine keep_far ?_ GW113.out _) | exact HK.out))) : w.heap.size ≤ gb120)), Aside0.mk ((Nat.le_trans HW0.out (by rw [hg]; exact (keep_size (w := w) (g := g) (row := none) (by repeat (first | (with_reducible first | exact HK.out | apply KeepBut.set_ | apply keep_drewN | apply keep_drew | apply keep_alloc | refine keep_far ?_ GW112.out _ | refine keep_far ?_ GW113.out _) | exact HK.out))) : w.heap.size ≤ gb120) : w0.heap.size ≤ gb120)), zn1 BK112 hg, zn2 BK112 hg, zn1 BK113 hg, zn2 BK113 hg, Aside0.mk ((by rw [hg]; exact Nat.ne_of_lt (IsS64.lt (show IsS64 w0 _ g s0_0 t118 t119 from by repeat (first | (with_reducible first | exact HI0.out | apply IsS64.alloc | apply IsS64.drewN | apply IsS64.drew | apply IsS64.set_1 | apply IsS64.set_2 | refine IsS64.far ?_ NB0_112.out _ | refine IsS64.far ?_ NB0_113.out _) | exact HI0.out))) : g ≠ gb120)), Aside0.mk ((by rw [hg]; exact Nat.ne_of_gt (IsS64.lt (show IsS64 w0 _ g s0_0 t118 t119 from by repeat (first | (with_reducible first | exact HI0.out | apply IsS64.alloc | apply IsS64.drewN | apply IsS64.drew | apply IsS64.set_1 | apply IsS64.set_2 | refine IsS64.far ?_ NB0_112.out _ | refine IsS64.far ?_ NB0_113.out _) | exact HI0.out))) : gb120 ≠ g))⟩
   clear HI0 BK112 BK113 HK HB
   obtain ⟨HI0, BK112, BK113, HK, HB, BK120, GW120, GE120, NB112_120, NB120_112, NB113_120, NB120_113, NB0_120, NB120_0⟩ := n_
   clear hb hbox hg
   refine hK.out _ _ ⟨(blk_cell BK112.out 0).trans rfl, (blk_cell BK112.out 1).trans rfl⟩ (fun hHeld => ?_)
   clear hK K
   refine norm_ (a' := ?_) ?_ ?_
   rotate_left
   ·show Act.put _ (some 5) _ = _
    exact zap
   exact norm_ (by simp only [putAll, Act.put, List.setIfInBounds_toArray, List.set_cons_zero, List.set_cons_succ]) (hCont (gb120) _ ⟨hHeld, (zh BK112).out, (zh BK113).out, (zh BK120).out, GW120.out, GE120.out, NB0_120.out, NB120_0.out, NB112_120.out, NB120_112.out, NB113_120.out, NB120_113.out, (by repeat (first | (with_reducible first | exact HI0.out | apply IsS64.alloc | apply IsS64.drewN | apply IsS64.drew | apply IsS64.set_1 | apply IsS64.set_2 | refine IsS64.far ?_ NB0_112.out _ | refine IsS64.far ?_ NB0_113.out _ | refine IsS64.far ?_ NB0_120.out _) | exact HI0.out)), (by repeat (first | (with_reducible first | exact HK.out | apply KeepBut.set_ | apply keep_drewN | apply keep_drew | apply keep_alloc | refine keep_far ?_ GW112.out _ | refine keep_far ?_ GW113.out _ | refine keep_far ?_ GW120.out _) | exact HK.out)), (by repeat (first | (with_reducible first | exact HB.out | apply below_alloc | apply pw_below_drewN | apply below_drew1 | refine below_set ?_ (IsS64.ge HI0.out) | refine below_set ?_ GE112.out | refine below_set ?_ GE113.out | refine below_set ?_ GE120.out) | exact HB.out))⟩)
  skip
  refine box_step ?hg (N := 5) ?hd (cs := #[.int .i8 0, .int .i8 0, .int .i8 0, .int .i8 0, .int .i8 0]) (t := 28) ?hr ?_; (case hd => rfl); (case hg => rfl); (case hr => exact zgs)
  intro gb120 hg w12 hbox hb
  have n_ : _ ∧ _ ∧ _ ∧ _ ∧ _ ∧ _ ∧ _ ∧ _ ∧ _ ∧ _ ∧ _ ∧ _ ∧ _ ∧ _ := ⟨Aside0.mk (IsS64.below (by repeat (first | (with_reducible first | exact HI0.out | apply IsS64.alloc | apply IsS64.drewN | apply IsS64.drew | apply IsS64.set_1 | apply IsS64.set_2 | refine IsS64.far ?_ NB0_112.out _ | refine IsS64.far ?_ NB0_113.out _) | exact HI0.out)) hb), zk BK112 hb, zk BK113 hb, Aside0.mk (KeepBut.trans (by repeat (first | (with_reducible first | exact HK.out | apply KeepBut.set_ | apply keep_drewN | apply keep_drew | apply keep_alloc | refine keep_far ?_ GW112.out _ | refine keep_far ?_ GW113.out _) | exact HK.out)) (KeepBut.of_below hb g none) (.inl rfl)), Aside0.mk (below_step (by repeat (first | (with_reducible first | exact HB.out | apply below_alloc | apply pw_below_drewN | apply below_drew1 | refine below_set ?_ (IsS64.ge HI0.out) | refine below_set ?_ GE112.out | refine below_set ?_ GE113.out) | exact HB.out)) hb), Aside0.mk (hbox), Aside0.mk ((by rw [hg]; exact (keep_size (w := w) (g := g) (row := none) (by repeat (first | (with_reducible first | exact HK.out | apply KeepBut.set_ | apply keep_drewN | apply keep_drew | apply keep_alloc | refine keep_far ?_ GW112.out _ | refine keep_far ?_ GW113.out _) | exact HK.out))) : w.heap.size ≤ gb120)), Aside0.mk ((Nat.le_trans HW0.out (by rw [hg]; exact (keep_size (w := w) (g := g) (row := none) (by repeat (first | (with_reducible first | exact HK.out | apply KeepBut.set_ | apply keep_drewN | apply keep_drew | apply keep_alloc | refine keep_far ?_ GW112.out _ | refine keep_far ?_ GW113.out _) | exact HK.out))) : w.heap.size ≤ gb120) : w0.heap.size ≤ gb120)), zn1 BK112 hg, zn2 BK112 hg, zn1 BK113 hg, zn2 BK113 hg, Aside0.mk ((by rw [hg]; exact Nat.ne_of_lt (IsS64.lt (show IsS64 w0 _ g s0_0 t115 t116 from by repeat (first | (with_reducible first | exact HI0.out | apply IsS64.alloc | apply IsS64.drewN | apply IsS64.drew | apply IsS64.set_1 | apply IsS64.set_2 | refine IsS64.far ?_ NB0_112.out _ | refine IsS64.far ?_ NB0_113.out _) | exact HI0.out))) : g ≠ gb120)), Aside0.mk ((by rw [hg]; exact Nat.ne_of_gt (IsS64.lt (show IsS64 w0 _ g s0_0 t115 t116 from by repeat (first | (with_reducible first | exact HI0.out | apply IsS64.alloc | apply IsS64.drewN | apply IsS64.drew | apply IsS64.set_1 | apply IsS64.set_2 | refine IsS64.far ?_ NB0_112.out _ | refine IsS64.far ?_ NB0_113.out _) | exact HI0.out))) : gb120 ≠ g))⟩
  clear HI0 BK112 BK113 HK HB
  obtain ⟨HI0, BK112, BK113, HK, HB, BK120, GW120, GE120, NB112_120, NB120_112, NB113_120, NB120_113, NB0_120, NB120_0⟩ := n_
  clear hb hbox hg
  refine hK.out _ _ ⟨(blk_cell BK112.out 0).trans rfl, (blk_cell BK112.out 1).trans rfl⟩ (fun hHeld => ?_)
  clear hK K
  refine norm_ (a' := ?_) ?_ ?_
  rotate_left
  ·show Act.put _ (some 5) _ = _
   exact zap
  refine one_ (i := 5) (N := some 11) (zq 10 319) rfl rfl (one_of HT_.out (by kernel_rfl)) (by decide) (fun K hK => ?_)
  refine goes_ Try.func17 (by kernel_rfl) rfl #[.pointer (some ⟨g, 0, none⟩), .int .i64 4] (by rfl) rfl rfl zm ?_
  with_reducible refine (spec_l00Src_pick.calls g s0_0 t115 t116 4 t117 t118 t119 w0 _ ?side1 ?side2 A4.out).mono ?_
  (case side1 => repeat (first | (with_reducible first | exact HI0.out | apply IsS64.alloc | apply IsS64.drewN | apply IsS64.drew | apply IsS64.set_1 | apply IsS64.set_2 | refine IsS64.far ?_ NB0_112.out _ | refine IsS64.far ?_ NB0_113.out _ | refine IsS64.far ?_ NB0_120.out _) | exact HI0.out))
  (case side2 => repeat (first | (with_reducible first | exact HB.out | apply below_alloc | apply pw_below_drewN | apply below_drew1 | refine below_set ?_ (IsS64.ge HI0.out) | refine below_set ?_ GE112.out | refine below_set ?_ GE113.out | refine below_set ?_ GE120.out) | exact HB.out))
  rintro e w13 ⟨rfl, hi, hb, hk⟩
  refine ⟨_, rfl, ?_⟩
  have n_ : _ ∧ _ ∧ _ ∧ _ ∧ _ ∧ _ := ⟨Aside0.mk (KeepBut.blk hk (g' := gb112) (o := .cells #[.int .i8 a1_0, .int .i8 a1_1] 26 (0, 0)) (zh BK112).out NB112_0.out (by simp)), Aside0.mk (KeepBut.blk hk (g' := gb113) (o := .cells #[.int .i8 0, .int .i8 0, .int .i8 0, .int .i8 0, .int .i8 0] 28 (0, 0)) (zh BK113).out NB113_0.out (by simp)), Aside0.mk (KeepBut.blk hk (g' := gb120) (o := .cells #[.int .i8 0, .int .i8 0, .int .i8 0, .int .i8 0, .int .i8 0] 28 (0, 0)) (zh BK120).out NB120_0.out (by simp)), Aside0.mk (KeepBut.trans (by repeat (first | (with_reducible first | exact HK.out | apply KeepBut.set_ | apply keep_drewN | apply keep_drew | apply keep_alloc | refine keep_far ?_ GW112.out _ | refine keep_far ?_ GW113.out _ | refine keep_far ?_ GW120.out _) | exact HK.out)) hk (.inl rfl)), Aside0.mk (hb), Aside0.mk (hi)⟩
  clear BK112 BK113 BK120 HK HB HI0
  obtain ⟨BK112, BK113, BK120, HK, HB, HI0⟩ := n_
  (try clear hb)
  (try clear hb2)
  (try clear hk)
  (try clear hi)
  refine hK.out _ _ ⟨(blk_cell BK112.out 0).trans rfl, (blk_cell BK112.out 1).trans rfl⟩ (fun hHeld => ?_)
  clear hK K
  refine norm_ (a' := ?_) ?_ ?_
  rotate_left
  ·show Act.put _ (some 11) _ = _
   exact zap
  refine zpu 6 (some 12) (zq 10 383) HT_ ?_
  refine zpu 7 (some 13) (zq 10 511) HT_ ?_
  exact norm_ (by simp only [putAll, Act.put, List.setIfInBounds_toArray, List.set_cons_zero, List.set_cons_succ]) (hCont (gb120) _ ⟨hHeld, (zh BK112).out, (zh BK113).out, (zh BK120).out, GW120.out, GE120.out, NB0_120.out, NB120_0.out, NB112_120.out, NB120_112.out, NB113_120.out, NB120_113.out, (by repeat (first | (with_reducible first | exact HI0.out | apply IsS64.alloc | apply IsS64.drewN | apply IsS64.drew | apply IsS64.set_1 | apply IsS64.set_2 | refine IsS64.far ?_ NB0_112.out _ | refine IsS64.far ?_ NB0_113.out _ | refine IsS64.far ?_ NB0_120.out _) | exact HI0.out)), (by repeat (first | (with_reducible first | exact HK.out | apply KeepBut.set_ | apply keep_drewN | apply keep_drew | apply keep_alloc | refine keep_far ?_ GW112.out _ | refine keep_far ?_ GW113.out _ | refine keep_far ?_ GW120.out _) | exact HK.out)), (by repeat (first | (with_reducible first | exact HB.out | apply below_alloc | apply pw_below_drewN | apply below_drew1 | refine below_set ?_ (IsS64.ge HI0.out) | refine below_set ?_ GE112.out | refine below_set ?_ GE113.out | refine below_set ?_ GE120.out) | exact HB.out))⟩)
 rintro gb120 w14 ⟨hS_, h0_, h1_, h2_, h3_, h4_, h5_, h6_, h7_, h8_, h9_, h10_, h11_, h12_, h13_⟩
 have n_ : (Aside0 (w14.heap[gb112]? = some (.cells #[.int .i8 a1_0, .int .i8 a1_1] 26 (0, 0)))) ∧ (Aside0 (w14.heap[gb113]? = some (.cells #[.int .i8 0, .int .i8 0, .int .i8 0, .int .i8 0, .int .i8 0] 28 (0, 0)))) ∧ (Aside0 (w14.heap[gb120]? = some (.cells #[.int .i8 0, .int .i8 0, .int .i8 0, .int .i8 0, .int .i8 0] 28 (0, 0)))) ∧ (Aside0 (w.heap.size ≤ gb120)) ∧ (Aside0 (w0.heap.size ≤ gb120)) ∧ (Aside0 (g ≠ gb120)) ∧ (Aside0 (gb120 ≠ g)) ∧ (Aside0 (gb112 ≠ gb120)) ∧ (Aside0 (gb120 ≠ gb112)) ∧ (Aside0 (gb113 ≠ gb120)) ∧ (Aside0 (gb120 ≠ gb113)) ∧ (Aside0 (IsS64 w0 w14 g s0_0 t118 t119)) ∧ (Aside0 (KeepBut w w14 g none)) ∧ (Aside0 (Below w0.heap.size w0 w14)) := ⟨⟨h0_⟩, ⟨h1_⟩, ⟨h2_⟩, ⟨h3_⟩, ⟨h4_⟩, ⟨h5_⟩, ⟨h6_⟩, ⟨h7_⟩, ⟨h8_⟩, ⟨h9_⟩, ⟨h10_⟩, ⟨h11_⟩, ⟨h12_⟩, ⟨h13_⟩⟩
 clear BK112 BK113 HI0 HK HB h0_ h1_ h2_ h3_ h4_ h5_ h6_ h7_ h8_ h9_ h10_ h11_ h12_ h13_
 obtain ⟨BK112, BK113, BK120, GW120, GE120, NB0_120, NB120_0, NB112_120, NB120_112, NB113_120, NB120_113, HI0, HK, HB⟩ := n_
 have hHeld := hS_
 refine norm_ (a' := ?_) ?_ ?_
 rotate_left
 ·simp only [putAll, Act.put, List.setIfInBounds_toArray, List.set_cons_zero, List.set_cons_succ]
  rfl
 refine one_ (i := 9) (N := none) (zq 10 1023) rfl rfl (one_of HT_.out (by kernel_rfl)) (by decide) (fun K hK => ?_)
 have hs15 : w14.cell? ⟨gb120, 0, none⟩ = some (.int .i8 0) := (blk_cell BK120.out 0).trans rfl
 have hfs15 := blk_frozen BK120.out 0
 have hns15_0 := NB112_120.out
 have hns15_1 := NB113_120.out
 have hms15_0 := NB120_112.out
 have hms15_1 := NB120_113.out
 have hs16 : w14.cell? ⟨gb120, 1, none⟩ = some (.int .i8 0) := (blk_cell BK120.out 1).trans rfl
 have hfs16 := blk_frozen BK120.out 1
 have hns16_0 := NB112_120.out
 have hns16_1 := NB113_120.out
 have hms16_0 := NB120_112.out
 have hms16_1 := NB120_113.out
 have hs17 : w14.cell? ⟨gb120, 2, none⟩ = some (.int .i8 0) := (blk_cell BK120.out 2).trans rfl
 have hfs17 := blk_frozen BK120.out 2
 have hns17_0 := NB112_120.out
 have hns17_1 := NB113_120.out
 have hms17_0 := NB120_112.out
 have hms17_1 := NB120_113.out
 have hs18 : w14.cell? ⟨gb120, 3, none⟩ = some (.int .i8 0) := (blk_cell BK120.out 3).trans rfl
 have hfs18 := blk_frozen BK120.out 3
 have hns18_0 := NB112_120.out
 have hns18_1 := NB113_120.out
 have hms18_0 := NB120_112.out
 have hms18_1 := NB120_113.out
 have hs19 : w14.cell? ⟨gb120, 4, none⟩ = some (.int .i8 0) := (blk_cell BK120.out 4).trans rfl
 have hfs19 := blk_frozen BK120.out 4
 have hns19_0 := NB112_120.out
 have hns19_1 := NB113_120.out
 have hms19_0 := NB120_112.out
 have hms19_1 := NB120_113.out
 refine skip_ (w1 := ?_) (by rfl) rfl ?_ ?_
 rotate_left
 ·go_simp
  rfl
 refine hK.out _ _ ⟨((cell_far (p := ⟨gb120, _, none⟩) NB112_120.out _).trans (((cell_far (p := ⟨gb120, _, none⟩) NB112_120.out _).trans (((cell_far (p := ⟨gb120, _, none⟩) NB112_120.out _).trans (((cell_far (p := ⟨gb120, _, none⟩) NB112_120.out _).trans (((cell_far (p := ⟨gb120, _, none⟩) NB112_120.out _).trans (hHeld.1)))))))))), ((cell_far (p := ⟨gb120, _, none⟩) NB112_120.out _).trans (((cell_far (p := ⟨gb120, _, none⟩) NB112_120.out _).trans (((cell_far (p := ⟨gb120, _, none⟩) NB112_120.out _).trans (((cell_far (p := ⟨gb120, _, none⟩) NB112_120.out _).trans (((cell_far (p := ⟨gb120, _, none⟩) NB112_120.out _).trans (hHeld.2))))))))))⟩ (fun hHeld => ?_)
 clear hK K
 refine done_ (done_of HT_.out (by kernel_rfl)) ?_
 try go_wp2_with (first | ((with_reducible refine gate_callee (f := 35) rfl ?_); refine goesL_ (some 15) rfl rfl Try.func35 (by kernel_rfl) rfl #[.pointer (some ⟨g, 0, none⟩), .int .i64 3] rfl zm ?_; (with_reducible refine (spec_l00Src_one.calls g s0_0 t118 t119 3 true t122 t123 w0 _ ?side1 ?side2 A5.out).mono ?_); (case side1 => repeat (first | (with_reducible first | exact HI0.out | apply IsS64.alloc | apply IsS64.drewN | apply IsS64.drew | apply IsS64.set_1 | apply IsS64.set_2 | refine IsS64.far ?_ NB0_112.out _ | refine IsS64.far ?_ NB0_113.out _ | refine IsS64.far ?_ NB0_120.out _) | exact HI0.out)); (case side2 => repeat (first | (with_reducible first | exact HB.out | apply below_alloc | apply pw_below_drewN | apply below_drew1 | refine below_set ?_ (IsS64.ge HI0.out) | refine below_set ?_ GE112.out | refine below_set ?_ GE113.out | refine below_set ?_ GE120.out) | exact HB.out)); rintro e w20 ⟨rfl, hi, hb, hk⟩; refine ⟨_, rfl, ?_⟩; have n_ : _ ∧ _ ∧ _ ∧ _ ∧ _ ∧ _ := ⟨Aside0.mk (KeepBut.blk hk (g' := gb112) (o := .cells #[.int .i8 a1_0, .int .i8 a1_1] 26 (0, 0)) (zf BK112 NB112_120).out NB112_0.out (by simp)), Aside0.mk (KeepBut.blk hk (g' := gb113) (o := .cells #[.int .i8 0, .int .i8 0, .int .i8 0, .int .i8 0, .int .i8 0] 28 (0, 0)) (zf BK113 NB113_120).out NB113_0.out (by simp)), Aside0.mk (KeepBut.blk hk (g' := gb120) (o := .cells #[.int .i8 a1_0, .int .i8 a1_1, .int .i8 (IntKind.i8.wrap (t114)), .int .i8 (IntKind.i8.wrap (t117)), .int .i8 1] 28 (0, 0)) (zp BK120) NB120_0.out (by simp)), Aside0.mk (KeepBut.trans (by repeat (first | (with_reducible first | exact HK.out | apply KeepBut.set_ | apply keep_drewN | apply keep_drew | apply keep_alloc | refine keep_far ?_ GW112.out _ | refine keep_far ?_ GW113.out _ | refine keep_far ?_ GW120.out _) | exact HK.out)) hk (.inl rfl)), Aside0.mk (hb), Aside0.mk (hi)⟩; clear BK112 BK113 BK120 HK HB HI0; obtain ⟨BK112, BK113, BK120, HK, HB, HI0⟩ := n_; (try clear hb); (try clear hb2); (try clear hk); (try clear hi)) | ((with_reducible refine gate_callee (f := 17) rfl ?_); refine goesL_ (some 17) rfl rfl Try.func17 (by kernel_rfl) rfl #[.pointer (some ⟨g, 0, none⟩), .int .i64 4] rfl zm ?_; (with_reducible refine (spec_l00Src_pick.calls g s0_0 t122 t123 4 t124 t125 t126 w0 _ ?side1 ?side2 A7.out).mono ?_); (case side1 => repeat (first | (with_reducible first | exact HI0.out | apply IsS64.alloc | apply IsS64.drewN | apply IsS64.drew | apply IsS64.set_1 | apply IsS64.set_2 | refine IsS64.far ?_ NB0_112.out _ | refine IsS64.far ?_ NB0_113.out _ | refine IsS64.far ?_ NB0_120.out _) | exact HI0.out)); (case side2 => repeat (first | (with_reducible first | exact HB.out | apply below_alloc | apply pw_below_drewN | apply below_drew1 | refine below_set ?_ (IsS64.ge HI0.out) | refine below_set ?_ GE112.out | refine below_set ?_ GE113.out | refine below_set ?_ GE120.out) | exact HB.out)); rintro e w21 ⟨rfl, hi, hb, hk⟩; refine ⟨_, rfl, ?_⟩; have n_ : _ ∧ _ ∧ _ ∧ _ ∧ _ ∧ _ := ⟨Aside0.mk (KeepBut.blk hk (g' := gb112) (o := .cells #[.int .i8 a1_0, .int .i8 a1_1] 26 (0, 0)) (zh BK112).out NB112_0.out (by simp)), Aside0.mk (KeepBut.blk hk (g' := gb113) (o := .cells #[.int .i8 0, .int .i8 0, .int .i8 0, .int .i8 0, .int .i8 0] 28 (0, 0)) (zh BK113).out NB113_0.out (by simp)), Aside0.mk (KeepBut.blk hk (g' := gb120) (o := .cells #[.int .i8 a1_0, .int .i8 a1_1, .int .i8 (IntKind.i8.wrap (t114)), .int .i8 (IntKind.i8.wrap (t117)), .int .i8 1] 28 (0, 0)) (zh BK120).out NB120_0.out (by simp)), Aside0.mk (KeepBut.trans (by repeat (first | (with_reducible first | exact HK.out | apply KeepBut.set_ | apply keep_drewN | apply keep_drew | apply keep_alloc | refine keep_far ?_ GW112.out _ | refine keep_far ?_ GW113.out _ | refine keep_far ?_ GW120.out _) | exact HK.out)) hk (.inl rfl)), Aside0.mk (hb), Aside0.mk (hi)⟩; clear BK112 BK113 BK120 HK HB HI0; obtain ⟨BK112, BK113, BK120, HK, HB, HI0⟩ := n_; (try clear hb); (try clear hb2); (try clear hk); (try clear hi); have hnb22 := NB120_112.out; have hnc22 := NB112_120.out; have hnb23 := NB120_113.out; have hnc23 := NB113_120.out; have hnb24 := NB120_0.out; have hnc24 := NB0_120.out; obtain ⟨z25_0, z25_1, z25_2, z25_3, z25_4, y25_0, y25_1, y25_2, y25_3, y25_4⟩ := zB5 BK120; have hnb26 := NB113_112.out; have hnc26 := NB112_113.out; have hnb27 := NB113_0.out; have hnc27 := NB0_113.out; obtain ⟨z28_0, z28_1, z28_2, z28_3, z28_4, y28_0, y28_1, y28_2, y28_3, y28_4⟩ := zB5 BK113))
 refine bodyPost_ret (results_cell_row rfl _ _ gb113 28 #[.int .i8 a1_0, .int .i8 a1_1, .int .i8 (IntKind.i8.wrap (t114)), .int .i8 (IntKind.i8.wrap (t117)), .int .i8 (IntKind.i8.wrap (wrap64 (1 + t124)))] (0, 0) _ rfl (by (with_reducible repeat (first | refine blk_drewN ?_ _ | refine blk_drew ?_ | refine blk_alloc ?_ _)); refine blk_put (cs := #[.int .i8 a1_0, .int .i8 a1_1, .int .i8 (IntKind.i8.wrap (t114)), .int .i8 (IntKind.i8.wrap (t117)), .int .i8 0]) ?_ 4 _ rfl; (with_reducible repeat (first | refine blk_drewN ?_ _ | refine blk_drew ?_ | refine blk_alloc ?_ _)); refine blk_put (cs := #[.int .i8 a1_0, .int .i8 a1_1, .int .i8 (IntKind.i8.wrap (t114)), .int .i8 0, .int .i8 0]) ?_ 3 _ rfl; (with_reducible repeat (first | refine blk_drewN ?_ _ | refine blk_drew ?_ | refine blk_alloc ?_ _)); refine blk_put (cs := #[.int .i8 a1_0, .int .i8 a1_1, .int .i8 0, .int .i8 0, .int .i8 0]) ?_ 2 _ rfl; (with_reducible repeat (first | refine blk_drewN ?_ _ | refine blk_drew ?_ | refine blk_alloc ?_ _)); refine blk_put (cs := #[.int .i8 a1_0, .int .i8 0, .int .i8 0, .int .i8 0, .int .i8 0]) ?_ 1 _ rfl; (with_reducible repeat (first | refine blk_drewN ?_ _ | refine blk_drew ?_ | refine blk_alloc ?_ _)); refine blk_put (cs := #[.int .i8 0, .int .i8 0, .int .i8 0, .int .i8 0, .int .i8 0]) ?_ 0 _ rfl; (with_reducible repeat (first | refine blk_drewN ?_ _ | refine blk_drew ?_ | refine blk_alloc ?_ _)); refine blk_far ?_ NB113_120.out _; (with_reducible repeat (first | refine blk_drewN ?_ _ | refine blk_drew ?_ | refine blk_alloc ?_ _)); exact BK113.out) Try.underlying28 rfl (by kernel_rfl)) rfl ?_
 exact ⟨zv, by repeat (first | (with_reducible first | exact HI0.out | apply IsS64.alloc | apply IsS64.drewN | apply IsS64.drew | apply IsS64.set_1 | apply IsS64.set_2 | refine IsS64.far ?_ NB0_112.out _ | refine IsS64.far ?_ NB0_113.out _ | refine IsS64.far ?_ NB0_120.out _) | exact HI0.out), by repeat (first | (with_reducible first | exact HB.out | apply below_alloc | apply pw_below_drewN | apply below_drew1 | refine below_set ?_ (IsS64.ge HI0.out) | refine below_set ?_ GE112.out | refine below_set ?_ GE113.out | refine below_set ?_ GE120.out) | exact HB.out), by repeat (first | (with_reducible first | exact HK.out | apply KeepBut.set_ | apply keep_drewN | apply keep_drew | apply keep_alloc | refine keep_far ?_ GW112.out _ | refine keep_far ?_ GW113.out _ | refine keep_far ?_ GW120.out _) | exact HK.out)⟩
end Go.Proofs.Ytjeejglobdgpjaa.PFnPieces
