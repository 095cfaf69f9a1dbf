-- WRITTEN by xprint.py, a program of this session's. Not trusted: Lean checks it.
-- packed by pack.py
import Derived.Test.YtjeejglobdgpjaaPFnPiecesx0
import Derived.Test.YtjeejglobdgpjaaPFnPiecesx3
import Derived.Test.YtjeejglobdgpjaaPFnPiecesx4
import Derived.Test.YtjeejglobdgpjaaTFnPiecesa
namespace Go.Proofs.Ytjeejglobdgpjaa.PFnPieces
open Go.RowKit Go.Proofs.YtjeejglobdgpjaaW.PrintWords Go.Proofs.YtjeejglobdgpjaaW.PrintLast Go.Proofs.YtjeejglobdgpjaaW.PrintMore Go.Proofs.YtjeejglobdgpjaaX
attribute [local go_sem] max2_int min2_int max_two min_two max_three min_three max_four min_four   -- for this text's walks alone
set_option maxHeartbeats 8000000
set_option maxRecDepth 100000
set_option linter.unusedVariables false
set_option linter.unusedSimpArgs false

def spec_A2Piece.f (l0 : List Int) : Option (Int × Int × Int × Int × Int) := (spec_l00From.f l0).bind fun bt128 => ((spec_l00Src_pick.f bt128.1 bt128.2.1 bt128.2.2 6).bind fun bt132 => ((spec_l00Src_pick.f bt128.1 bt132.2.1 bt132.2.2 6).bind fun bt136 => ((spec_l01PieceDrawn.f bt128.1 bt136.2.1 bt136.2.2 (IntKind.i8.wrap (bt132.1)) (IntKind.i8.wrap (bt136.1))).bind fun bt139 => (some (bt139.1, bt139.2.1, bt139.2.2.1, bt139.2.2.2.1, bt139.2.2.2.2.1)))))
theorem spec_A2Piece.calls (A0 : Option Addr) (c0 : Nat) (l0 : List Int) (r1 : Int) (r2 : Int) (r3 : Int) (r4 : Int) (r5 : Int) (w : World) (hr0 : Kd.C (Kd.int .u8) w A0 l0.length l0) (hc0 : l0.length ≤ c0) (h : spec_A2Piece.f l0 = some (r1, r2, r3, r4, r5)) :
    Calls Try.prog 5 #[.slice A0 l0.length c0] w fun e w' => e = .returned (.agg #[.int .i8 r1, .int .i8 r2, .int .i8 r3, .int .i8 r4, .int .i8 r5]) ∧ Below w.heap.size w w' := by
 have hu28 := Try.underlying28
 have hu26 := Try.underlying26
 have HR0 := Aside0.mk hr0
 have HC0 := Aside0.mk hc0
 clear hr0 hc0
 have HB := Aside0.mk (Below.refl w.heap.size w)
 have H : ((spec_l00From.f l0).bind fun bt128 => ((spec_l00Src_pick.f bt128.1 bt128.2.1 bt128.2.2 6).bind fun bt132 => ((spec_l00Src_pick.f bt128.1 bt132.2.1 bt132.2.2 6).bind fun bt136 => ((spec_l01PieceDrawn.f bt128.1 bt136.2.1 bt136.2.2 (IntKind.i8.wrap (bt132.1)) (IntKind.i8.wrap (bt136.1))).bind fun bt139 => (some (bt139.1, bt139.2.1, bt139.2.2.1, bt139.2.2.2.1, bt139.2.2.2.2.1)))))) = some (r1, r2, r3, r4, r5) := h
 clear h
 replace H := zob H
 obtain ⟨⟨t128, t129, t130⟩, A20, H⟩ := H
 replace H : ((spec_l00Src_pick.f t128 t129 t130 6).bind fun bt132 => ((spec_l00Src_pick.f t128 bt132.2.1 bt132.2.2 6).bind fun bt136 => ((spec_l01PieceDrawn.f t128 bt136.2.1 bt136.2.2 (IntKind.i8.wrap (bt132.1)) (IntKind.i8.wrap (bt136.1))).bind fun bt139 => (some (bt139.1, bt139.2.1, bt139.2.2.1, bt139.2.2.2.1, bt139.2.2.2.2.1))))) = some (r1, r2, r3, r4, r5) := H
 have A2 := Aside0.mk A20
 clear A20
 replace H := zob H
 obtain ⟨⟨t132, t133, t134⟩, A30, H⟩ := H
 replace H : ((spec_l00Src_pick.f t128 t133 t134 6).bind fun bt136 => ((spec_l01PieceDrawn.f t128 bt136.2.1 bt136.2.2 (IntKind.i8.wrap (t132)) (IntKind.i8.wrap (bt136.1))).bind fun bt139 => (some (bt139.1, bt139.2.1, bt139.2.2.1, bt139.2.2.2.1, bt139.2.2.2.2.1)))) = some (r1, r2, r3, r4, r5) := H
 have A3 := Aside0.mk A30
 clear A30
 replace H := zob H
 obtain ⟨⟨t136, t137, t138⟩, A40, H⟩ := H
 replace H : ((spec_l01PieceDrawn.f t128 t137 t138 (IntKind.i8.wrap (t132)) (IntKind.i8.wrap (t136))).bind fun bt139 => (some (bt139.1, bt139.2.1, bt139.2.2.1, bt139.2.2.2.1, bt139.2.2.2.2.1))) = some (r1, r2, r3, r4, r5) := H
 have A4 := Aside0.mk A40
 clear A40
 replace H := zob H
 obtain ⟨⟨t139, t140, t141, t142, t143, t144, t145⟩, A50, H⟩ := H
 replace H : (some (t139, t140, t141, t142, t143)) = some (r1, r2, r3, r4, r5) := H
 have A5 := Aside0.mk A50
 clear A50
 simp only [Option.some.injEq, Prod.mk.injEq] at H
 obtain ⟨rfl, rfl, rfl, rfl, rfl⟩ := H
 go_enter Try.func5, Try.ntmps5
 go_wp2_with (first | ((with_reducible refine gate_dst (N := 2) rfl ?_); refine zbx 2 #[.int .i8 0, .int .i8 0, .int .i8 0, .int .i8 0, .int .i8 0] 28 ?_; intro gb127 hg w6 hbox hb; have n_ : _ ∧ _ ∧ _ ∧ _ := ⟨zb HB hb, Aside0.mk (hbox), zg HB hg, zg HB hg⟩; clear HB; obtain ⟨HB, BK127, GW127, GE127⟩ := n_; clear hb hbox hg) | ((with_reducible refine gate_callee (f := 16) rfl ?_); refine goesL_ (some 6) rfl rfl Try.func16 (by kernel_rfl) rfl #[.slice A0 l0.length c0] rfl zm ?_; (with_reducible refine (spec_l00From.calls _ _ l0 t128 t129 t130 w _ ?side1 ?side2 ?side3 A2.out).mono ?_); (case side1 => exact zbo); (case side2 => exact HR0.out); (case side3 => exact HC0.out); rintro e w7 ⟨g131, rfl, hi, hb, hb2⟩; refine ⟨_, rfl, ?_⟩; have n_ : _ ∧ _ ∧ _ ∧ _ ∧ _ := ⟨Aside0.mk (blk_below (g := gb127) (o := .cells #[.int .i8 0, .int .i8 0, .int .i8 0, .int .i8 0, .int .i8 0] 28 (0, 0)) (zh BK127).out hb2), Aside0.mk (hb), Aside0.mk (hi), Aside0.mk (IsS64.ne_blk hi (blk_below (g := gb127) (o := .cells #[.int .i8 0, .int .i8 0, .int .i8 0, .int .i8 0, .int .i8 0] 28 (0, 0)) (zh BK127).out hb2) (by decide)), Aside0.mk (Ne.symm (IsS64.ne_blk hi (blk_below (g := gb127) (o := .cells #[.int .i8 0, .int .i8 0, .int .i8 0, .int .i8 0, .int .i8 0] 28 (0, 0)) (zh BK127).out hb2) (by decide)))⟩; clear BK127 HB; obtain ⟨BK127, HB, HI131, NB131_127, NB127_131⟩ := n_; (try clear hb); (try clear hb2); (try clear hk); (try clear hi)) | ((with_reducible refine gate_callee (f := 17) rfl ?_); refine goesL_ (some 8) rfl rfl Try.func17 (by kernel_rfl) rfl #[.pointer (some ⟨g131, 0, none⟩), .int .i64 6] rfl zm ?_; (with_reducible refine (spec_l00Src_pick.calls g131 t128 t129 t130 6 t132 t133 t134 w _ ?side1 ?side2 A3.out).mono ?_); (case side1 => repeat (first | (with_reducible first | exact HI131.out | apply IsS64.alloc | apply IsS64.drewN | apply IsS64.drew | apply IsS64.set_1 | apply IsS64.set_2 | refine IsS64.far ?_ NB131_127.out _) | exact HI131.out)); (case side2 => repeat (first | (with_reducible first | exact HB.out | apply below_alloc | apply pw_below_drewN | apply below_drew1 | refine below_set ?_ (IsS64.ge HI131.out) | refine below_set ?_ GE127.out) | exact HB.out)); rintro e w8 ⟨rfl, hi, hb, hk⟩; refine ⟨_, rfl, ?_⟩; have n_ : _ ∧ _ ∧ _ := ⟨Aside0.mk (KeepBut.blk hk (g' := gb127) (o := .cells #[.int .i8 0, .int .i8 0, .int .i8 0, .int .i8 0, .int .i8 0] 28 (0, 0)) (zh BK127).out NB127_131.out (by simp)), Aside0.mk (hb), Aside0.mk (hi)⟩; clear BK127 HB HI131; obtain ⟨BK127, HB, HI131⟩ := n_; (try clear hb); (try clear hb2); (try clear hk); (try clear hi)) | ((with_reducible refine gate_dst (N := 4) rfl ?_); refine zbx 4 #[.int .i8 0, .int .i8 0] 26 ?_; intro gb135 hg w9 hbox hb; have n_ : _ ∧ _ ∧ _ ∧ _ ∧ _ ∧ _ ∧ _ ∧ _ ∧ _ ∧ _ := ⟨zk BK127 hb, Aside0.mk (IsS64.below (by repeat (first | (with_reducible first | exact HI131.out | apply IsS64.alloc | apply IsS64.drewN | apply IsS64.drew | apply IsS64.set_1 | apply IsS64.set_2 | refine IsS64.far ?_ NB131_127.out _) | exact HI131.out)) hb), Aside0.mk (below_step (by repeat (first | (with_reducible first | exact HB.out | apply below_alloc | apply pw_below_drewN | apply below_drew1 | refine below_set ?_ (IsS64.ge HI131.out) | refine below_set ?_ GE127.out) | exact HB.out)) hb), Aside0.mk (hbox), Aside0.mk ((by rw [hg]; exact (below_size (by repeat (first | (with_reducible first | exact HB.out | apply below_alloc | apply pw_below_drewN | apply below_drew1 | refine below_set ?_ (IsS64.ge HI131.out) | refine below_set ?_ GE127.out) | exact HB.out))) : w.heap.size ≤ gb135)), Aside0.mk ((by rw [hg]; exact (below_size (by repeat (first | (with_reducible first | exact HB.out | apply below_alloc | apply pw_below_drewN | apply below_drew1 | refine below_set ?_ (IsS64.ge HI131.out) | refine below_set ?_ GE127.out) | exact HB.out))) : w.heap.size ≤ gb135)), zn1 BK127 hg, zn2 BK127 hg, Aside0.mk ((by rw [hg]; exact Nat.ne_of_lt (IsS64.lt (show IsS64 w _ g131 t128 t133 t134 from by repeat (first | (with_reducible first | exact HI131.out | apply IsS64.alloc | apply IsS64.drewN | apply IsS64.drew | apply IsS64.set_1 | apply IsS64.set_2 | refine IsS64.far ?_ NB131_127.out _) | exact HI131.out))) : g131 ≠ gb135)), Aside0.mk ((by rw [hg]; exact Nat.ne_of_gt (IsS64.lt (show IsS64 w _ g131 t128 t133 t134 from by repeat (first | (with_reducible first | exact HI131.out | apply IsS64.alloc | apply IsS64.drewN | apply IsS64.drew | apply IsS64.set_1 | apply IsS64.set_2 | refine IsS64.far ?_ NB131_127.out _) | exact HI131.out))) : gb135 ≠ g131))⟩; clear BK127 HI131 HB; obtain ⟨BK127, HI131, HB, BK135, GW135, GE135, NB127_135, NB135_127, NB131_135, NB135_131⟩ := n_; clear hb hbox hg; have hnb10 := NB135_127.out; have hnc10 := NB127_135.out; have hnb11 := NB135_131.out; have hnc11 := NB131_135.out; obtain ⟨z12_0, z12_1, y12_0, y12_1⟩ := zB2 BK135) | ((with_reducible refine gate_callee (f := 17) rfl ?_); refine goesL_ (some 12) rfl rfl Try.func17 (by kernel_rfl) rfl #[.pointer (some ⟨g131, 0, none⟩), .int .i64 6] rfl zm ?_; (with_reducible refine (spec_l00Src_pick.calls g131 t128 t133 t134 6 t136 t137 t138 w _ ?side1 ?side2 A4.out).mono ?_); (case side1 => repeat (first | (with_reducible first | exact HI131.out | apply IsS64.alloc | apply IsS64.drewN | apply IsS64.drew | apply IsS64.set_1 | apply IsS64.set_2 | refine IsS64.far ?_ NB131_127.out _ | refine IsS64.far ?_ NB131_135.out _) | exact HI131.out)); (case side2 => repeat (first | (with_reducible first | exact HB.out | apply below_alloc | apply pw_below_drewN | apply below_drew1 | refine below_set ?_ (IsS64.ge HI131.out) | refine below_set ?_ GE127.out | refine below_set ?_ GE135.out) | exact HB.out)); rintro e w13 ⟨rfl, hi, hb, hk⟩; refine ⟨_, rfl, ?_⟩; have n_ : _ ∧ _ ∧ _ ∧ _ := ⟨Aside0.mk (KeepBut.blk hk (g' := gb127) (o := .cells #[.int .i8 0, .int .i8 0, .int .i8 0, .int .i8 0, .int .i8 0] 28 (0, 0)) (zf BK127 NB127_135).out NB127_131.out (by simp)), Aside0.mk (KeepBut.blk hk (g' := gb135) (o := .cells #[.int .i8 (IntKind.i8.wrap (t132)), .int .i8 0] 26 (0, 0)) (zp BK135) NB135_131.out (by simp)), Aside0.mk (hb), Aside0.mk (hi)⟩; clear BK127 BK135 HB HI131; obtain ⟨BK127, BK135, HB, HI131⟩ := n_; (try clear hb); (try clear hb2); (try clear hk); (try clear hi); obtain ⟨z14_0, z14_1, y14_0, y14_1⟩ := zB2 BK135) | ((with_reducible refine gate_callee (f := 18) rfl ?_); refine goesL_ (some 17) rfl rfl Try.func18 (by kernel_rfl) rfl #[.pointer (some ⟨g131, 0, none⟩), .agg #[.int .i8 (IntKind.i8.wrap (t132)), .int .i8 (IntKind.i8.wrap (t136))]] rfl zm ?_; (with_reducible refine (spec_l01PieceDrawn.calls g131 t128 t137 t138 (IntKind.i8.wrap (t132)) (IntKind.i8.wrap (t136)) t139 t140 t141 t142 t143 t144 t145 w _ ?side1 ?side2 A5.out).mono ?_); (case side1 => repeat (first | (with_reducible first | exact HI131.out | apply IsS64.alloc | apply IsS64.drewN | apply IsS64.drew | apply IsS64.set_1 | apply IsS64.set_2 | refine IsS64.far ?_ NB131_127.out _ | refine IsS64.far ?_ NB131_135.out _) | exact HI131.out)); (case side2 => repeat (first | (with_reducible first | exact HB.out | apply below_alloc | apply pw_below_drewN | apply below_drew1 | refine below_set ?_ (IsS64.ge HI131.out) | refine below_set ?_ GE127.out | refine below_set ?_ GE135.out) | exact HB.out)); rintro e w15 ⟨rfl, hi, hb, hk⟩; refine ⟨_, rfl, ?_⟩; have n_ : _ ∧ _ ∧ _ ∧ _ := ⟨Aside0.mk (KeepBut.blk hk (g' := gb127) (o := .cells #[.int .i8 0, .int .i8 0, .int .i8 0, .int .i8 0, .int .i8 0] 28 (0, 0)) (zf BK127 NB127_135).out NB127_131.out (by simp)), Aside0.mk (KeepBut.blk hk (g' := gb135) (o := .cells #[.int .i8 (IntKind.i8.wrap (t132)), .int .i8 (IntKind.i8.wrap (t136))] 26 (0, 0)) (zp BK135) NB135_131.out (by simp)), Aside0.mk (hb), Aside0.mk (hi)⟩; clear BK127 BK135 HB HI131; obtain ⟨BK127, BK135, HB, HI131⟩ := n_; (try clear hb); (try clear hb2); (try clear hk); (try clear hi); have hnb16 := NB127_131.out; have hnc16 := NB131_127.out; obtain ⟨z17_0, z17_1, z17_2, z17_3, z17_4, y17_0, y17_1, y17_2, y17_3, y17_4⟩ := zB5 BK127))
 refine bodyPost_ret (results_cell_row rfl _ _ gb127 28 #[.int .i8 t139, .int .i8 t140, .int .i8 t141, .int .i8 t142, .int .i8 t143] (0, 0) _ rfl (zp BK127) Try.underlying28 rfl (by kernel_rfl)) rfl ?_
 exact ⟨zv, by repeat (first | (with_reducible first | exact HB.out | apply below_alloc | apply pw_below_drewN | apply below_drew1 | refine below_set ?_ (IsS64.ge HI131.out) | refine below_set ?_ GE127.out | refine below_set ?_ GE135.out) | exact HB.out)⟩
def laws_a2At.f (l0 : List Int) (a1 : Int) (a2 : Int) : Option (Int) := if a1 ≥ (l0.length : Int) then (some 0) else (if a2 < 1 then (some 0) else (if 0 ≤ a1 then (if a1 < (l0.length : Int) then (if a2 = 0 then (none) else (some (Int.tmod (wrap64 (rd l0 a1)) a2))) else (none)) else (none)))
theorem laws_a2At.calls (A0 : Option Addr) (c0 : Nat) (l0 : List Int) (a1 : Int) (a2 : Int) (r : Int) (w : World) (hr0 : Kd.C (Kd.int .u8) w A0 l0.length l0) (hc0 : l0.length ≤ c0) (h : laws_a2At.f l0 a1 a2 = some r) :
    Calls Try.prog 6 #[.slice A0 l0.length c0, .int .i64 a1, .int .i64 a2] w fun e w' => e = .returned (.int .i64 r) ∧ Drawn0 w w' := by
 have HR0 := Aside0.mk hr0
 have HC0 := Aside0.mk hc0
 clear hr0 hc0
 have H : (if a1 ≥ (l0.length : Int) then (some 0) else (if a2 < 1 then (some 0) else (if 0 ≤ a1 then (if a1 < (l0.length : Int) then (if a2 = 0 then (none) else (some (Int.tmod (wrap64 (rd l0 a1)) a2))) else (none)) else (none)))) = some r := h
 clear h
 by_cases c4 : a1 ≥ (l0.length : Int)
 ·rw [if_pos c4] at H
  have c4b0 : decide ((l0.length : Int) ≤ a1) = true := decide_eq_true c4
  clear c4
  obtain rfl := Option.some.inj H
  go_enter Try.func6, Try.ntmps6
  go_wp2
  go_ret
  exact ⟨zi, zdr⟩
 rw [if_neg c4] at H
 have c4b0 : decide ((l0.length : Int) ≤ a1) = false := decide_eq_false c4
 clear c4
 by_cases c5 : a2 < 1
 ·rw [if_pos c5] at H
  have c5b0 : decide (a2 < 1) = true := decide_eq_true c5
  clear c5
  obtain rfl := Option.some.inj H
  go_enter Try.func6, Try.ntmps6
  go_wp2
  go_ret
  exact ⟨zi, zdr⟩
 rw [if_neg c5] at H
 have c5b0 : decide (a2 < 1) = false := decide_eq_false c5
 clear c5
 by_cases c6 : 0 ≤ a1
 rotate_left
 ·rw [if_neg c6] at H
  exact absurd H (by simp)
 rw [if_pos c6] at H
 have c6b0 : decide (0 ≤ a1) = true := decide_eq_true c6
 clear c6
 by_cases c7 : a1 < (l0.length : Int)
 rotate_left
 ·rw [if_neg c7] at H
  exact absurd H (by simp)
 rw [if_pos c7] at H
 have c7b0 : decide (a1 < (l0.length : Int)) = true := decide_eq_true c7
 clear c7
 by_cases c8 : a2 = 0
 ·rw [if_pos c8] at H
  exact absurd H (by simp)
 rw [if_neg c8] at H
 have c8b0 : (a2 == 0) = false := beq_eq_false_iff_ne.mpr c8
 have c8b1 : (a2 != 0) = true := bne_iff_ne.mpr c8
 obtain rfl := Option.some.inj H
 have p146 : 0 ≤ (a1 : Int) := of_decide_eq_true zA
 have q146 : a1 < (l0.length : Int) := of_decide_eq_true zA
 obtain ⟨ad146, e146, hx146_0⟩ := Kd.at_int HR0.out a1 p146 q146
 cases e146
 replace p146 := eq_true p146
 replace q146 := eq_true q146
 go_enter Try.func6, Try.ntmps6
 go_wp2
 go_ret
 exact ⟨zi, zdr⟩
def impl_in.f (a0 : Int) (a1 : Int) (a2 : Int) : Option (Bool) := if a0 ≥ a1 then (some (decide (a0 ≤ a2))) else (some false)
theorem impl_in.calls (a0 : Int) (a1 : Int) (a2 : Int) (r : Bool) (w : World) (h : impl_in.f a0 a1 a2 = some r) :
    Calls Try.prog 25 #[.int .i64 a0, .int .i64 a1, .int .i64 a2] w fun e w' => e = .returned (.bool r) ∧ Drawn0 w w' := by
 have H : (if a0 ≥ a1 then (some (decide (a0 ≤ a2))) else (some false)) = some r := h
 clear h
 by_cases c4 : a0 ≥ a1
 ·rw [if_pos c4] at H
  have c4b0 : decide (a1 ≤ a0) = true := decide_eq_true c4
  clear c4
  obtain rfl := Option.some.inj H
  go_enter Try.func25, Try.ntmps25
  go_wp2
  go_ret
  exact ⟨zi, zdr⟩
 rw [if_neg c4] at H
 have c4b0 : decide (a1 ≤ a0) = false := decide_eq_false c4
 clear c4
 obtain rfl := Option.some.inj H
 go_enter Try.func25, Try.ntmps25
 go_wp2
 go_ret
 exact ⟨zi, zdr⟩
def impl_Cell_placed.f (a0_0 : Int) (a0_1 : Int) : Option (Bool) := (impl_in.f (wrap64 (a0_0)) 0 23).bind fun t148 => (if t148 = true then ((impl_in.f (wrap64 (a0_1)) 0 23).bind fun t149 => (some t149)) else (some false))
theorem impl_Cell_placed.calls (a0_0 : Int) (a0_1 : Int) (r : Bool) (w : World) (h : impl_Cell_placed.f a0_0 a0_1 = some r) :
    Calls Try.prog 26 #[.agg #[.int .i8 a0_0, .int .i8 a0_1]] w fun e w' => e = .returned (.bool r) ∧ Below w.heap.size w w' := by
 have hu26 := Try.underlying26
 have HB := Aside0.mk (Below.refl w.heap.size w)
 have H : ((impl_in.f (wrap64 (a0_0)) 0 23).bind fun t148 => (if t148 = true then ((impl_in.f (wrap64 (a0_1)) 0 23).bind fun t149 => (some t149)) else (some false))) = some r := h
 clear h
 replace H := zob H
 obtain ⟨t148, A20, H⟩ := H
 replace H : (if t148 = true then ((impl_in.f (wrap64 (a0_1)) 0 23).bind fun t149 => (some t149)) else (some false)) = some r := H
 have A2 := Aside0.mk A20
 clear A20
 by_cases c3 : t148 = true
 rotate_left
 ·replace c3 := Bool.eq_false_iff.mpr c3
  subst c3
  have H1 : (some false) = some r := by rw [if_neg (show ¬ (false = true) by decide)] at H; exact H
  clear H
  have H := H1
  clear H1
  obtain rfl := Option.some.inj H
  go_enter Try.func26, Try.ntmps26
  go_wp2_with (first | ((with_reducible refine gate_dst (N := 1) rfl ?_); refine zbx 1 #[.int .i8 a0_0, .int .i8 a0_1] 26 ?_; intro gb147 hg w7 hbox hb; have n_ : _ ∧ _ ∧ _ ∧ _ := ⟨zb HB hb, Aside0.mk (hbox), zg HB hg, zg HB hg⟩; clear HB; obtain ⟨HB, BK147, GW147, GE147⟩ := n_; clear hb hbox hg; obtain ⟨z8_0, z8_1, y8_0, y8_1⟩ := zB2 BK147) | ((with_reducible refine gate_callee (f := 25) rfl ?_); refine goesL_ (some 6) rfl rfl Try.func25 (by kernel_rfl) rfl #[.int .i64 (wrap64 (a0_0)), .int .i64 0, .int .i64 23] rfl zm ?_; (with_reducible refine (impl_in.calls (wrap64 (a0_0)) 0 23 false _ A2.out).mono ?_); rintro e w' ⟨rfl, ⟨nd, rfl⟩⟩; refine ⟨_, rfl, ?_⟩))
  go_ret
  exact ⟨zv, zbo⟩
 subst c3
 have H1 : ((impl_in.f (wrap64 (a0_1)) 0 23).bind fun t149 => (some t149)) = some r := by rw [if_pos rfl] at H; exact H
 clear H
 have H := H1
 clear H1
 replace H := zob H
 obtain ⟨t149, A40, H⟩ := H
 replace H : (some t149) = some r := H
 have A4 := Aside0.mk A40
 clear A40
 obtain rfl := Option.some.inj H
 go_enter Try.func26, Try.ntmps26
 go_wp2_with (first | ((with_reducible refine gate_dst (N := 1) rfl ?_); refine zbx 1 #[.int .i8 a0_0, .int .i8 a0_1] 26 ?_; intro gb147 hg w5 hbox hb; have n_ : _ ∧ _ ∧ _ ∧ _ := ⟨zb HB hb, Aside0.mk (hbox), zg HB hg, zg HB hg⟩; clear HB; obtain ⟨HB, BK147, GW147, GE147⟩ := n_; clear hb hbox hg; obtain ⟨z6_0, z6_1, y6_0, y6_1⟩ := zB2 BK147) | ((with_reducible refine gate_callee (f := 25) rfl ?_); refine goesL_ (some 6) rfl rfl Try.func25 (by kernel_rfl) rfl #[.int .i64 (wrap64 (a0_0)), .int .i64 0, .int .i64 23] rfl zm ?_; (with_reducible refine (impl_in.calls (wrap64 (a0_0)) 0 23 true _ A2.out).mono ?_); rintro e w' ⟨rfl, ⟨nd, rfl⟩⟩; refine ⟨_, rfl, ?_⟩) | (go_at_call 25; (with_reducible refine (impl_in.calls (wrap64 (a0_1)) 0 23 t149 _ A4.out).mono ?_); rintro e w' ⟨rfl, ⟨nd, rfl⟩⟩))
 go_ret
 exact ⟨zv, zbo⟩
def impl_ValidPiece.f (a0_0 : Int) (a0_1 : Int) (a0_2 : Int) (a0_3 : Int) (a0_4 : Int) : Option (Bool) := (impl_in.f (wrap64 (a0_2)) 0 5).bind fun t151 => (if t151 = true then ((impl_in.f (wrap64 (a0_3)) 0 3).bind fun t152 => (if t152 = true then ((impl_in.f (wrap64 (a0_4)) 1 9).bind fun t153 => (if t153 = true then ((impl_Cell_placed.f a0_0 a0_1).bind fun t154 => (some t154)) else (some false))) else (some false))) else (some false))
theorem impl_ValidPiece.calls (a0_0 : Int) (a0_1 : Int) (a0_2 : Int) (a0_3 : Int) (a0_4 : Int) (r : Bool) (w : World) (h : impl_ValidPiece.f a0_0 a0_1 a0_2 a0_3 a0_4 = some r) :
    Calls Try.prog 9 #[.agg #[.int .i8 a0_0, .int .i8 a0_1, .int .i8 a0_2, .int .i8 a0_3, .int .i8 a0_4]] w fun e w' => e = .returned (.bool r) ∧ Below w.heap.size w w' := by
 have hu28 := Try.underlying28
 have hu26 := Try.underlying26
 have HB := Aside0.mk (Below.refl w.heap.size w)
 have H : ((impl_in.f (wrap64 (a0_2)) 0 5).bind fun t151 => (if t151 = true then ((impl_in.f (wrap64 (a0_3)) 0 3).bind fun t152 => (if t152 = true then ((impl_in.f (wrap64 (a0_4)) 1 9).bind fun t153 => (if t153 = true then ((impl_Cell_placed.f a0_0 a0_1).bind fun t154 => (some t154)) else (some false))) else (some false))) else (some false))) = some r := h
 clear h
 replace H := zob H
 obtain ⟨t151, A20, H⟩ := H
 replace H : (if t151 = true then ((impl_in.f (wrap64 (a0_3)) 0 3).bind fun t152 => (if t152 = true then ((impl_in.f (wrap64 (a0_4)) 1 9).bind fun t153 => (if t153 = true then ((impl_Cell_placed.f a0_0 a0_1).bind fun t154 => (some t154)) else (some false))) else (some false))) else (some false)) = some r := H
 have A2 := Aside0.mk A20
 clear A20
 by_cases c3 : t151 = true
 rotate_left
 ·replace c3 := Bool.eq_false_iff.mpr c3
  subst c3
  have H1 : (some false) = some r := by rw [if_neg (show ¬ (false = true) by decide)] at H; exact H
  clear H
  have H := H1
  clear H1
  obtain rfl := Option.some.inj H
  go_enter Try.func9, Try.ntmps9
  go_wp2_with (first | ((with_reducible refine gate_dst (N := 1) rfl ?_); refine zbx 1 #[.int .i8 a0_0, .int .i8 a0_1, .int .i8 a0_2, .int .i8 a0_3, .int .i8 a0_4] 28 ?_; intro gb150 hg w16 hbox hb; have n_ : _ ∧ _ ∧ _ ∧ _ := ⟨zb HB hb, Aside0.mk (hbox), zg HB hg, zg HB hg⟩; clear HB; obtain ⟨HB, BK150, GW150, GE150⟩ := n_; clear hb hbox hg; obtain ⟨z17_0, z17_1, z17_2, z17_3, z17_4, y17_0, y17_1, y17_2, y17_3, y17_4⟩ := zB5 BK150) | ((with_reducible refine gate_callee (f := 25) rfl ?_); refine goesL_ (some 6) rfl rfl Try.func25 (by kernel_rfl) rfl #[.int .i64 (wrap64 (a0_2)), .int .i64 0, .int .i64 5] rfl zm ?_; (with_reducible refine (impl_in.calls (wrap64 (a0_2)) 0 5 false _ A2.out).mono ?_); rintro e w' ⟨rfl, ⟨nd, rfl⟩⟩; refine ⟨_, rfl, ?_⟩))
  go_ret
  exact ⟨zv, zbo⟩
 subst c3
 have H1 : ((impl_in.f (wrap64 (a0_3)) 0 3).bind fun t152 => (if t152 = true then ((impl_in.f (wrap64 (a0_4)) 1 9).bind fun t153 => (if t153 = true then ((impl_Cell_placed.f a0_0 a0_1).bind fun t154 => (some t154)) else (some false))) else (some false))) = some r := by rw [if_pos rfl] at H; exact H
 clear H
 have H := H1
 clear H1
 replace H := zob H
 obtain ⟨t152, A40, H⟩ := H
 replace H : (if t152 = true then ((impl_in.f (wrap64 (a0_4)) 1 9).bind fun t153 => (if t153 = true then ((impl_Cell_placed.f a0_0 a0_1).bind fun t154 => (some t154)) else (some false))) else (some false)) = some r := H
 have A4 := Aside0.mk A40
 clear A40
 by_cases c5 : t152 = true
 rotate_left
 ·replace c5 := Bool.eq_false_iff.mpr c5
  subst c5
  have H1 : (some false) = some r := by rw [if_neg (show ¬ (false = true) by decide)] at H; exact H
  clear H
  have H := H1
  clear H1
  obtain rfl := Option.some.inj H
  go_enter Try.func9, Try.ntmps9
  go_wp2_with (first | ((with_reducible refine gate_dst (N := 1) rfl ?_); refine zbx 1 #[.int .i8 a0_0, .int .i8 a0_1, .int .i8 a0_2, .int .i8 a0_3, .int .i8 a0_4] 28 ?_; intro gb150 hg w14 hbox hb; have n_ : _ ∧ _ ∧ _ ∧ _ := ⟨zb HB hb, Aside0.mk (hbox), zg HB hg, zg HB hg⟩; clear HB; obtain ⟨HB, BK150, GW150, GE150⟩ := n_; clear hb hbox hg; obtain ⟨z15_0, z15_1, z15_2, z15_3, z15_4, y15_0, y15_1, y15_2, y15_3, y15_4⟩ := zB5 BK150) | ((with_reducible refine gate_callee (f := 25) rfl ?_); refine goesL_ (some 6) rfl rfl Try.func25 (by kernel_rfl) rfl #[.int .i64 (wrap64 (a0_2)), .int .i64 0, .int .i64 5] rfl zm ?_; (with_reducible refine (impl_in.calls (wrap64 (a0_2)) 0 5 true _ A2.out).mono ?_); rintro e w' ⟨rfl, ⟨nd, rfl⟩⟩; refine ⟨_, rfl, ?_⟩) | (go_at_call 25; (with_reducible refine (impl_in.calls (wrap64 (a0_3)) 0 3 false _ A4.out).mono ?_); rintro e w' ⟨rfl, ⟨nd, rfl⟩⟩))
  go_ret
  exact ⟨zv, zbo⟩
 subst c5
 have H1 : ((impl_in.f (wrap64 (a0_4)) 1 9).bind fun t153 => (if t153 = true then ((impl_Cell_placed.f a0_0 a0_1).bind fun t154 => (some t154)) else (some false))) = some r := by rw [if_pos rfl] at H; exact H
 clear H
 have H := H1
 clear H1
 replace H := zob H
 obtain ⟨t153, A60, H⟩ := H
 replace H : (if t153 = true then ((impl_Cell_placed.f a0_0 a0_1).bind fun t154 => (some t154)) else (some false)) = some r := H
 have A6 := Aside0.mk A60
 clear A60
 by_cases c7 : t153 = true
 rotate_left
 ·replace c7 := Bool.eq_false_iff.mpr c7
  subst c7
  have H1 : (some false) = some r := by rw [if_neg (show ¬ (false = true) by decide)] at H; exact H
  clear H
  have H := H1
  clear H1
  obtain rfl := Option.some.inj H
  go_enter Try.func9, Try.ntmps9
  go_wp2_with (first | ((with_reducible refine gate_dst (N := 1) rfl ?_); refine zbx 1 #[.int .i8 a0_0, .int .i8 a0_1, .int .i8 a0_2, .int .i8 a0_3, .int .i8 a0_4] 28 ?_; intro gb150 hg w12 hbox hb; have n_ : _ ∧ _ ∧ _ ∧ _ := ⟨zb HB hb, Aside0.mk (hbox), zg HB hg, zg HB hg⟩; clear HB; obtain ⟨HB, BK150, GW150, GE150⟩ := n_; clear hb hbox hg; obtain ⟨z13_0, z13_1, z13_2, z13_3, z13_4, y13_0, y13_1, y13_2, y13_3, y13_4⟩ := zB5 BK150) | ((with_reducible refine gate_callee (f := 25) rfl ?_); refine goesL_ (some 6) rfl rfl Try.func25 (by kernel_rfl) rfl #[.int .i64 (wrap64 (a0_2)), .int .i64 0, .int .i64 5] rfl zm ?_; (with_reducible refine (impl_in.calls (wrap64 (a0_2)) 0 5 true _ A2.out).mono ?_); rintro e w' ⟨rfl, ⟨nd, rfl⟩⟩; refine ⟨_, rfl, ?_⟩) | (go_at_call 25; (with_reducible refine (impl_in.calls (wrap64 (a0_3)) 0 3 true _ A4.out).mono ?_); rintro e w' ⟨rfl, ⟨nd, rfl⟩⟩) | (go_at_call 25; (with_reducible refine (impl_in.calls (wrap64 (a0_4)) 1 9 false _ A6.out).mono ?_); rintro e w' ⟨rfl, ⟨nd, rfl⟩⟩))
  go_ret
  exact ⟨zv, zbo⟩
 subst c7
 have H1 : ((impl_Cell_placed.f a0_0 a0_1).bind fun t154 => (some t154)) = some r := by rw [if_pos rfl] at H; exact H
 clear H
 have H := H1
 clear H1
 replace H := zob H
 obtain ⟨t154, A80, H⟩ := H
 replace H : (some t154) = some r := H
 have A8 := Aside0.mk A80
 clear A80
 obtain rfl := Option.some.inj H
 go_enter Try.func9, Try.ntmps9
 go_wp2_with (first | ((with_reducible refine gate_dst (N := 1) rfl ?_); refine zbx 1 #[.int .i8 a0_0, .int .i8 a0_1, .int .i8 a0_2, .int .i8 a0_3, .int .i8 a0_4] 28 ?_; intro gb150 hg w9 hbox hb; have n_ : _ ∧ _ ∧ _ ∧ _ := ⟨zb HB hb, Aside0.mk (hbox), zg HB hg, zg HB hg⟩; clear HB; obtain ⟨HB, BK150, GW150, GE150⟩ := n_; clear hb hbox hg; obtain ⟨z10_0, z10_1, z10_2, z10_3, z10_4, y10_0, y10_1, y10_2, y10_3, y10_4⟩ := zB5 BK150) | ((with_reducible refine gate_callee (f := 25) rfl ?_); refine goesL_ (some 6) rfl rfl Try.func25 (by kernel_rfl) rfl #[.int .i64 (wrap64 (a0_2)), .int .i64 0, .int .i64 5] rfl zm ?_; (with_reducible refine (impl_in.calls (wrap64 (a0_2)) 0 5 true _ A2.out).mono ?_); rintro e w' ⟨rfl, ⟨nd, rfl⟩⟩; refine ⟨_, rfl, ?_⟩) | (go_at_call 25; (with_reducible refine (impl_in.calls (wrap64 (a0_3)) 0 3 true _ A4.out).mono ?_); rintro e w' ⟨rfl, ⟨nd, rfl⟩⟩) | (go_at_call 25; (with_reducible refine (impl_in.calls (wrap64 (a0_4)) 1 9 true _ A6.out).mono ?_); rintro e w' ⟨rfl, ⟨nd, rfl⟩⟩) | (go_at_call 26; (with_reducible refine (impl_Cell_placed.calls a0_0 a0_1 t154 _ A8.out).mono ?_); rintro e w11 ⟨rfl, hb⟩; have n_ : _ ∧ _ := ⟨zk BK150 hb, zbs hb⟩; clear BK150 HB; obtain ⟨BK150, HB⟩ := n_; (try clear hb); (try clear hb2); (try clear hk); (try clear hi)))
 go_ret
 exact ⟨zv, zbo⟩
def impl_quartersOk.f (a0 : Int) : Option (Bool) := (impl_in.f a0 (-100) 100).bind fun t155 => (some t155)
theorem impl_quartersOk.calls (a0 : Int) (r : Bool) (w : World) (h : impl_quartersOk.f a0 = some r) :
    Calls Try.prog 19 #[.int .i64 a0] w fun e w' => e = .returned (.bool r) ∧ Drawn0 w w' := by
 have H : ((impl_in.f a0 (-100) 100).bind fun t155 => (some t155)) = some r := h
 clear h
 replace H := zob H
 obtain ⟨t155, A20, H⟩ := H
 replace H : (some t155) = some r := H
 have A2 := Aside0.mk A20
 clear A20
 obtain rfl := Option.some.inj H
 go_enter Try.func19, Try.ntmps19
 go_wp2_with (first | ((with_reducible refine gate_callee (f := 25) rfl ?_); refine goesL_ (some 4) rfl rfl Try.func25 (by kernel_rfl) rfl #[.int .i64 a0, .int .i64 (-100), .int .i64 100] rfl zm ?_; (with_reducible refine (impl_in.calls a0 (-100) 100 t155 _ A2.out).mono ?_); rintro e w' ⟨rfl, ⟨nd, rfl⟩⟩; refine ⟨_, rfl, ?_⟩))
 go_ret
 exact ⟨zi, zdr⟩
def impl_Piece_turned.f (a0_0 : Int) (a0_1 : Int) (a0_2 : Int) (a0_3 : Int) (a0_4 : Int) (a1 : Int) : Option (Int × Int × Int × Int × Int) := some (a0_0, a0_1, a0_2, IntKind.i8.wrap (Int.tmod (wrap64 ((wrap64 (a0_3)) + a1)) 4), a0_4)
theorem impl_Piece_turned.calls (a0_0 : Int) (a0_1 : Int) (a0_2 : Int) (a0_3 : Int) (a0_4 : Int) (a1 : Int) (r1 : Int) (r2 : Int) (r3 : Int) (r4 : Int) (r5 : Int) (w : World) (h : impl_Piece_turned.f a0_0 a0_1 a0_2 a0_3 a0_4 a1 = some (r1, r2, r3, r4, r5)) :
    Calls Try.prog 20 #[.agg #[.int .i8 a0_0, .int .i8 a0_1, .int .i8 a0_2, .int .i8 a0_3, .int .i8 a0_4], .int .i64 a1] w fun e w' => e = .returned (.agg #[.int .i8 r1, .int .i8 r2, .int .i8 r3, .int .i8 r4, .int .i8 r5]) ∧ Below w.heap.size w w' := by
 have hu28 := Try.underlying28
 have HB := Aside0.mk (Below.refl w.heap.size w)
 have H : (some (a0_0, a0_1, a0_2, IntKind.i8.wrap (Int.tmod (wrap64 ((wrap64 (a0_3)) + a1)) 4), a0_4)) = some (r1, r2, r3, r4, r5) := h
 clear h
 simp only [Option.some.injEq, Prod.mk.injEq] at H
 obtain ⟨rfl, rfl, rfl, rfl, rfl⟩ := H
 go_enter Try.func20, Try.ntmps20
 go_wp2_with (first | ((with_reducible refine gate_dst (N := 2) rfl ?_); refine zbx 2 #[.int .i8 a0_0, .int .i8 a0_1, .int .i8 a0_2, .int .i8 a0_3, .int .i8 a0_4] 28 ?_; intro gb156 hg w3 hbox hb; have n_ : _ ∧ _ ∧ _ ∧ _ := ⟨zb HB hb, Aside0.mk (hbox), zg HB hg, zg HB hg⟩; clear HB; obtain ⟨HB, BK156, GW156, GE156⟩ := n_; clear hb hbox hg) | ((with_reducible refine gate_dst (N := 4) rfl ?_); refine zbx 4 #[.int .i8 0, .int .i8 0, .int .i8 0, .int .i8 0, .int .i8 0] 28 ?_; intro gb157 hg w4 hbox hb; have n_ : _ ∧ _ ∧ _ ∧ _ ∧ _ ∧ _ ∧ _ := ⟨zk BK156 hb, zbs hb, Aside0.mk (hbox), zg HB hg, zg HB hg, zn1 BK156 hg, zn2 BK156 hg⟩; clear BK156 HB; obtain ⟨BK156, HB, BK157, GW157, GE157, NB156_157, NB157_156⟩ := n_; clear hb hbox hg; have hnb5 := NB156_157.out; have hnc5 := NB157_156.out; obtain ⟨z6_0, z6_1, z6_2, z6_3, z6_4, y6_0, y6_1, y6_2, y6_3, y6_4⟩ := zB5 BK156; obtain ⟨z7_0, z7_1, z7_2, z7_3, z7_4, y7_0, y7_1, y7_2, y7_3, y7_4⟩ := zB5 BK157))
 refine bodyPost_ret (results_cell_row rfl _ _ gb157 28 #[.int .i8 a0_0, .int .i8 a0_1, .int .i8 a0_2, .int .i8 (IntKind.i8.wrap (Int.tmod (wrap64 ((wrap64 (a0_3)) + a1)) 4)), .int .i8 a0_4] (0, 0) _ rfl (by (with_reducible repeat (first | refine blk_drewN ?_ _ | refine blk_drew ?_ | refine blk_alloc ?_ _)); refine blk_put (cs := #[.int .i8 a0_0, .int .i8 a0_1, .int .i8 a0_2, .int .i8 (IntKind.i8.wrap (Int.tmod (wrap64 ((wrap64 (a0_3)) + a1)) 4)), .int .i8 0]) ?_ 4 _ rfl; (with_reducible repeat (first | refine blk_drewN ?_ _ | refine blk_drew ?_ | refine blk_alloc ?_ _)); refine blk_put (cs := #[.int .i8 a0_0, .int .i8 a0_1, .int .i8 a0_2, .int .i8 0, .int .i8 0]) ?_ 3 _ rfl; (with_reducible repeat (first | refine blk_drewN ?_ _ | refine blk_drew ?_ | refine blk_alloc ?_ _)); refine blk_put (cs := #[.int .i8 a0_0, .int .i8 a0_1, .int .i8 0, .int .i8 0, .int .i8 0]) ?_ 2 _ rfl; (with_reducible repeat (first | refine blk_drewN ?_ _ | refine blk_drew ?_ | refine blk_alloc ?_ _)); refine blk_put (cs := #[.int .i8 a0_0, .int .i8 0, .int .i8 0, .int .i8 0, .int .i8 0]) ?_ 1 _ rfl; (with_reducible repeat (first | refine blk_drewN ?_ _ | refine blk_drew ?_ | refine blk_alloc ?_ _)); refine blk_put (cs := #[.int .i8 0, .int .i8 0, .int .i8 0, .int .i8 0, .int .i8 0]) ?_ 0 _ rfl; (with_reducible repeat (first | refine blk_drewN ?_ _ | refine blk_drew ?_ | refine blk_alloc ?_ _)); refine blk_far ?_ NB157_156.out _; (with_reducible repeat (first | refine blk_drewN ?_ _ | refine blk_drew ?_ | refine blk_alloc ?_ _)); exact BK157.out) Try.underlying28 rfl (by kernel_rfl)) rfl ?_
 exact ⟨zv, zbo⟩
def impl_turns.f (a0 : Int) : Option (Int) := some (Int.tmod (wrap64 ((Int.tmod a0 4) + 4)) 4)
theorem impl_turns.calls (a0 : Int) (r : Int) (w : World) (h : impl_turns.f a0 = some r) :
    Calls Try.prog 21 #[.int .i64 a0] w fun e w' => e = .returned (.int .i64 r) ∧ Drawn0 w w' := by
 have H : (some (Int.tmod (wrap64 ((Int.tmod a0 4) + 4)) 4)) = some r := h
 clear h
 obtain rfl := Option.some.inj H
 go_enter Try.func21, Try.ntmps21
 go_wp2
 go_ret
 exact ⟨zi, zdr⟩
def impl_TurnPiece.f (a0_0 : Int) (a0_1 : Int) (a0_2 : Int) (a0_3 : Int) (a0_4 : Int) (a1 : Int) : Option (Int × Int × Int × Int × Int × Int) := (impl_ValidPiece.f a0_0 a0_1 a0_2 a0_3 a0_4).bind fun t160 => (if t160 = true then ((impl_quartersOk.f a1).bind fun t161 => (if t161 = true then ((impl_turns.f a1).bind fun t162 => ((impl_Piece_turned.f a0_0 a0_1 a0_2 a0_3 a0_4 t162).bind fun bt163 => (some (bt163.1, bt163.2.1, bt163.2.2.1, bt163.2.2.2.1, bt163.2.2.2.2, 0)))) else (some (0, 0, 0, 0, 0, 2)))) else (some (0, 0, 0, 0, 0, 1)))
theorem impl_TurnPiece.calls (a0_0 : Int) (a0_1 : Int) (a0_2 : Int) (a0_3 : Int) (a0_4 : Int) (a1 : Int) (r1 : Int) (r2 : Int) (r3 : Int) (r4 : Int) (r5 : Int) (r6 : Int) (w : World) (h : impl_TurnPiece.f a0_0 a0_1 a0_2 a0_3 a0_4 a1 = some (r1, r2, r3, r4, r5, r6)) :
    Calls Try.prog 7 #[.agg #[.int .i8 a0_0, .int .i8 a0_1, .int .i8 a0_2, .int .i8 a0_3, .int .i8 a0_4], .int .i64 a1] w fun e w' => e = .returned (.tuple #[.agg #[.int .i8 r1, .int .i8 r2, .int .i8 r3, .int .i8 r4, .int .i8 r5], .int .i64 r6]) ∧ Below w.heap.size w w' := by
 have hu28 := Try.underlying28
 have HB := Aside0.mk (Below.refl w.heap.size w)
 have H : ((impl_ValidPiece.f a0_0 a0_1 a0_2 a0_3 a0_4).bind fun t160 => (if t160 = true then ((impl_quartersOk.f a1).bind fun t161 => (if t161 = true then ((impl_turns.f a1).bind fun t162 => ((impl_Piece_turned.f a0_0 a0_1 a0_2 a0_3 a0_4 t162).bind fun bt163 => (some (bt163.1, bt163.2.1, bt163.2.2.1, bt163.2.2.2.1, bt163.2.2.2.2, 0)))) else (some (0, 0, 0, 0, 0, 2)))) else (some (0, 0, 0, 0, 0, 1)))) = some (r1, r2, r3, r4, r5, r6) := h
 clear h
 replace H := zob H
 obtain ⟨t160, A30, H⟩ := H
 replace H : (if t160 = true then ((impl_quartersOk.f a1).bind fun t161 => (if t161 = true then ((impl_turns.f a1).bind fun t162 => ((impl_Piece_turned.f a0_0 a0_1 a0_2 a0_3 a0_4 t162).bind fun bt163 => (some (bt163.1, bt163.2.1, bt163.2.2.1, bt163.2.2.2.1, bt163.2.2.2.2, 0)))) else (some (0, 0, 0, 0, 0, 2)))) else (some (0, 0, 0, 0, 0, 1))) = some (r1, r2, r3, r4, r5, r6) := H
 have A3 := Aside0.mk A30
 clear A30
 by_cases c4 : t160 = true
 rotate_left
 ·replace c4 := Bool.eq_false_iff.mpr c4
  subst c4
  have H1 : (some (0, 0, 0, 0, 0, 1)) = some (r1, r2, r3, r4, r5, r6) := by rw [if_neg (show ¬ (false = true) by decide)] at H; exact H
  clear H
  have H := H1
  clear H1
  simp only [Option.some.injEq, Prod.mk.injEq] at H
  obtain ⟨rfl, rfl, rfl, rfl, rfl, rfl⟩ := H
  go_enter Try.func7, Try.ntmps7
  go_wp2_with (first | ((with_reducible refine gate_dst (N := 2) rfl ?_); refine zbx 2 #[.int .i8 a0_0, .int .i8 a0_1, .int .i8 a0_2, .int .i8 a0_3, .int .i8 a0_4] 28 ?_; intro gb158 hg w27 hbox hb; have n_ : _ ∧ _ ∧ _ ∧ _ := ⟨zb HB hb, Aside0.mk (hbox), zg HB hg, zg HB hg⟩; clear HB; obtain ⟨HB, BK158, GW158, GE158⟩ := n_; clear hb hbox hg) | ((with_reducible refine gate_dst (N := 4) rfl ?_); refine zbx 4 #[.int .i8 0, .int .i8 0, .int .i8 0, .int .i8 0, .int .i8 0] 28 ?_; intro gb159 hg w28 hbox hb; have n_ : _ ∧ _ ∧ _ ∧ _ ∧ _ ∧ _ ∧ _ := ⟨zk BK158 hb, zbs hb, Aside0.mk (hbox), zg HB hg, zg HB hg, zn1 BK158 hg, zn2 BK158 hg⟩; clear BK158 HB; obtain ⟨BK158, HB, BK159, GW159, GE159, NB158_159, NB159_158⟩ := n_; clear hb hbox hg; have hnb29 := NB158_159.out; have hnc29 := NB159_158.out; obtain ⟨z30_0, z30_1, z30_2, z30_3, z30_4, y30_0, y30_1, y30_2, y30_3, y30_4⟩ := zB5 BK158) | ((with_reducible refine gate_callee (f := 9) rfl ?_); refine goesL_ (some 8) rfl rfl Try.func9 (by kernel_rfl) rfl #[.agg #[.int .i8 a0_0, .int .i8 a0_1, .int .i8 a0_2, .int .i8 a0_3, .int .i8 a0_4]] rfl zm ?_; (with_reducible refine (impl_ValidPiece.calls a0_0 a0_1 a0_2 a0_3 a0_4 false _ A3.out).mono ?_); rintro e w31 ⟨rfl, hb⟩; refine ⟨_, rfl, ?_⟩; have n_ : _ ∧ _ ∧ _ := ⟨zk BK158 hb, zk BK159 hb, zbs hb⟩; clear BK158 BK159 HB; obtain ⟨BK158, BK159, HB⟩ := n_; (try clear hb); (try clear hb2); (try clear hk); (try clear hi); obtain ⟨z32_0, z32_1, z32_2, z32_3, z32_4, y32_0, y32_1, y32_2, y32_3, y32_4⟩ := zB5 BK159))
  refine bodyPost_ret (results_ct rfl _ _ gb159 28 #[.int .i8 0, .int .i8 0, .int .i8 0, .int .i8 0, .int .i8 0] (0, 0) _ rfl (zp BK159) Try.underlying28 rfl (by kernel_rfl)) rfl ?_
  exact ⟨zv, zbo⟩
 subst c4
 have H1 : ((impl_quartersOk.f a1).bind fun t161 => (if t161 = true then ((impl_turns.f a1).bind fun t162 => ((impl_Piece_turned.f a0_0 a0_1 a0_2 a0_3 a0_4 t162).bind fun bt163 => (some (bt163.1, bt163.2.1, bt163.2.2.1, bt163.2.2.2.1, bt163.2.2.2.2, 0)))) else (some (0, 0, 0, 0, 0, 2)))) = some (r1, r2, r3, r4, r5, r6) := by rw [if_pos rfl] at H; exact H
 clear H
 have H := H1
 clear H1
 replace H := zob H
 obtain ⟨t161, A50, H⟩ := H
 replace H : (if t161 = true then ((impl_turns.f a1).bind fun t162 => ((impl_Piece_turned.f a0_0 a0_1 a0_2 a0_3 a0_4 t162).bind fun bt163 => (some (bt163.1, bt163.2.1, bt163.2.2.1, bt163.2.2.2.1, bt163.2.2.2.2, 0)))) else (some (0, 0, 0, 0, 0, 2))) = some (r1, r2, r3, r4, r5, r6) := H
 have A5 := Aside0.mk A50
 clear A50
 by_cases c6 : t161 = true
 rotate_left
 ·replace c6 := Bool.eq_false_iff.mpr c6
  subst c6
  have H1 : (some (0, 0, 0, 0, 0, 2)) = some (r1, r2, r3, r4, r5, r6) := by rw [if_neg (show ¬ (false = true) by decide)] at H; exact H
  clear H
  have H := H1
  clear H1
  simp only [Option.some.injEq, Prod.mk.injEq] at H
  obtain ⟨rfl, rfl, rfl, rfl, rfl, rfl⟩ := H
  go_enter Try.func7, Try.ntmps7
  go_wp2_with (first | ((with_reducible refine gate_dst (N := 2) rfl ?_); refine zbx 2 #[.int .i8 a0_0, .int .i8 a0_1, .int .i8 a0_2, .int .i8 a0_3, .int .i8 a0_4] 28 ?_; intro gb158 hg w21 hbox hb; have n_ : _ ∧ _ ∧ _ ∧ _ := ⟨zb HB hb, Aside0.mk (hbox), zg HB hg, zg HB hg⟩; clear HB; obtain ⟨HB, BK158, GW158, GE158⟩ := n_; clear hb hbox hg) | ((with_reducible refine gate_dst (N := 4) rfl ?_); refine zbx 4 #[.int .i8 0, .int .i8 0, .int .i8 0, .int .i8 0, .int .i8 0] 28 ?_; intro gb159 hg w22 hbox hb; have n_ : _ ∧ _ ∧ _ ∧ _ ∧ _ ∧ _ ∧ _ := ⟨zk BK158 hb, zbs hb, Aside0.mk (hbox), zg HB hg, zg HB hg, zn1 BK158 hg, zn2 BK158 hg⟩; clear BK158 HB; obtain ⟨BK158, HB, BK159, GW159, GE159, NB158_159, NB159_158⟩ := n_; clear hb hbox hg; have hnb23 := NB158_159.out; have hnc23 := NB159_158.out; obtain ⟨z24_0, z24_1, z24_2, z24_3, z24_4, y24_0, y24_1, y24_2, y24_3, y24_4⟩ := zB5 BK158) | ((with_reducible refine gate_callee (f := 9) rfl ?_); refine goesL_ (some 8) rfl rfl Try.func9 (by kernel_rfl) rfl #[.agg #[.int .i8 a0_0, .int .i8 a0_1, .int .i8 a0_2, .int .i8 a0_3, .int .i8 a0_4]] rfl zm ?_; (with_reducible refine (impl_ValidPiece.calls a0_0 a0_1 a0_2 a0_3 a0_4 true _ A3.out).mono ?_); rintro e w25 ⟨rfl, hb⟩; refine ⟨_, rfl, ?_⟩; have n_ : _ ∧ _ ∧ _ := ⟨zk BK158 hb, zk BK159 hb, zbs hb⟩; clear BK158 BK159 HB; obtain ⟨BK158, BK159, HB⟩ := n_; (try clear hb); (try clear hb2); (try clear hk); (try clear hi)) | ((with_reducible refine gate_callee (f := 19) rfl ?_); refine goesL_ (some 13) rfl rfl Try.func19 (by kernel_rfl) rfl #[.int .i64 a1] rfl zm ?_; (with_reducible refine (impl_quartersOk.calls a1 false _ A5.out).mono ?_); rintro e w' ⟨rfl, ⟨nd, rfl⟩⟩; refine ⟨_, rfl, ?_⟩; (try (rw [drewN_self w25]; generalize hq_ : World.drewN w25 _ = w25; have n0_ : Aside0 (w25.heap[gb158]? = some (.cells #[.int .i8 a0_0, .int .i8 a0_1, .int .i8 a0_2, .int .i8 a0_3, .int .i8 a0_4] 28 (0, 0))) := ⟨by rw [← hq_]; exact (zh BK158).out⟩; have n1_ : Aside0 (w25.heap[gb159]? = some (.cells #[.int .i8 0, .int .i8 0, .int .i8 0, .int .i8 0, .int .i8 0] 28 (0, 0))) := ⟨by rw [← hq_]; exact (zh BK159).out⟩; have n2_ : Aside0 (Below w.heap.size w w25) := ⟨by rw [← hq_]; exact zbo⟩; clear BK158 BK159 HB hq_; have BK158 := n0_; have BK159 := n1_; have HB := n2_; clear n0_ n1_ n2_)); obtain ⟨z26_0, z26_1, z26_2, z26_3, z26_4, y26_0, y26_1, y26_2, y26_3, y26_4⟩ := zB5 BK159))
  refine bodyPost_ret (results_ct rfl _ _ gb159 28 #[.int .i8 0, .int .i8 0, .int .i8 0, .int .i8 0, .int .i8 0] (0, 0) _ rfl (zp BK159) Try.underlying28 rfl (by kernel_rfl)) rfl ?_
  exact ⟨zv, zbo⟩
 subst c6
 have H1 : ((impl_turns.f a1).bind fun t162 => ((impl_Piece_turned.f a0_0 a0_1 a0_2 a0_3 a0_4 t162).bind fun bt163 => (some (bt163.1, bt163.2.1, bt163.2.2.1, bt163.2.2.2.1, bt163.2.2.2.2, 0)))) = some (r1, r2, r3, r4, r5, r6) := by rw [if_pos rfl] at H; exact H
 clear H
 have H := H1
 clear H1
 replace H := zob H
 obtain ⟨t162, A70, H⟩ := H
 replace H : ((impl_Piece_turned.f a0_0 a0_1 a0_2 a0_3 a0_4 t162).bind fun bt163 => (some (bt163.1, bt163.2.1, bt163.2.2.1, bt163.2.2.2.1, bt163.2.2.2.2, 0))) = some (r1, r2, r3, r4, r5, r6) := H
 have A7 := Aside0.mk A70
 clear A70
 replace H := zob H
 obtain ⟨⟨t163, t164, t165, t166, t167⟩, A80, H⟩ := H
 replace H : (some (t163, t164, t165, t166, t167, 0)) = some (r1, r2, r3, r4, r5, r6) := H
 have A8 := Aside0.mk A80
 clear A80
 simp only [Option.some.injEq, Prod.mk.injEq] at H
 obtain ⟨rfl, rfl, rfl, rfl, rfl, rfl⟩ := H
 go_enter Try.func7, Try.ntmps7
 try go_wp2_with (first | ((with_reducible refine gate_dst (N := 2) rfl ?_); refine zbx 2 #[.int .i8 a0_0, .int .i8 a0_1, .int .i8 a0_2, .int .i8 a0_3, .int .i8 a0_4] 28 ?_; intro gb158 hg w9 hbox hb; have n_ : _ ∧ _ ∧ _ ∧ _ := ⟨zb HB hb, Aside0.mk (hbox), zg HB hg, zg HB hg⟩; clear HB; obtain ⟨HB, BK158, GW158, GE158⟩ := n_; clear hb hbox hg) | ((with_reducible refine gate_dst (N := 4) rfl ?_); refine zbx 4 #[.int .i8 0, .int .i8 0, .int .i8 0, .int .i8 0, .int .i8 0] 28 ?_; intro gb159 hg w10 hbox hb; have n_ : _ ∧ _ ∧ _ ∧ _ ∧ _ ∧ _ ∧ _ := ⟨zk BK158 hb, zbs hb, Aside0.mk (hbox), zg HB hg, zg HB hg, zn1 BK158 hg, zn2 BK158 hg⟩; clear BK158 HB; obtain ⟨BK158, HB, BK159, GW159, GE159, NB158_159, NB159_158⟩ := n_; clear hb hbox hg; have hnb11 := NB158_159.out; have hnc11 := NB159_158.out; obtain ⟨z12_0, z12_1, z12_2, z12_3, z12_4, y12_0, y12_1, y12_2, y12_3, y12_4⟩ := zB5 BK158) | ((with_reducible refine gate_callee (f := 9) rfl ?_); refine goesL_ (some 8) rfl rfl Try.func9 (by kernel_rfl) rfl #[.agg #[.int .i8 a0_0, .int .i8 a0_1, .int .i8 a0_2, .int .i8 a0_3, .int .i8 a0_4]] rfl zm ?_; (with_reducible refine (impl_ValidPiece.calls a0_0 a0_1 a0_2 a0_3 a0_4 true _ A3.out).mono ?_); rintro e w13 ⟨rfl, hb⟩; refine ⟨_, rfl, ?_⟩; have n_ : _ ∧ _ ∧ _ := ⟨zk BK158 hb, zk BK159 hb, zbs hb⟩; clear BK158 BK159 HB; obtain ⟨BK158, BK159, HB⟩ := n_; (try clear hb); (try clear hb2); (try clear hk); (try clear hi)) | ((with_reducible refine gate_callee (f := 19) rfl ?_); refine goesL_ (some 13) rfl rfl Try.func19 (by kernel_rfl) rfl #[.int .i64 a1] rfl zm ?_; (with_reducible refine (impl_quartersOk.calls a1 true _ A5.out).mono ?_); rintro e w' ⟨rfl, ⟨nd, rfl⟩⟩; refine ⟨_, rfl, ?_⟩; (try (rw [drewN_self w13]; generalize hq_ : World.drewN w13 _ = w13; have n0_ : Aside0 (w13.heap[gb158]? = some (.cells #[.int .i8 a0_0, .int .i8 a0_1, .int .i8 a0_2, .int .i8 a0_3, .int .i8 a0_4] 28 (0, 0))) := ⟨by rw [← hq_]; exact (zh BK158).out⟩; have n1_ : Aside0 (w13.heap[gb159]? = some (.cells #[.int .i8 0, .int .i8 0, .int .i8 0, .int .i8 0, .int .i8 0] 28 (0, 0))) := ⟨by rw [← hq_]; exact (zh BK159).out⟩; have n2_ : Aside0 (Below w.heap.size w w13) := ⟨by rw [← hq_]; exact zbo⟩; clear BK158 BK159 HB hq_; have BK158 := n0_; have BK159 := n1_; have HB := n2_; clear n0_ n1_ n2_))))
 have n_ : _ ∧ _ ∧ _ := ⟨Aside0.mk (blk_drew BK158.out), Aside0.mk (blk_drew BK159.out), Aside0.mk (below_drew1 HB.out)⟩
 clear BK158 BK159 HB
 obtain ⟨BK158, BK159, HB⟩ := n_
 refine start_ (n := 6) (S := fun w' => w'.cell? ⟨gb158, 0, none⟩ = some (.int .i8 a0_0) ∧ w'.cell? ⟨gb158, 1, none⟩ = some (.int .i8 a0_1) ∧ w'.cell? ⟨gb158, 2, none⟩ = some (.int .i8 a0_2) ∧ w'.cell? ⟨gb158, 3, none⟩ = some (.int .i8 a0_3) ∧ w'.cell? ⟨gb158, 4, none⟩ = some (.int .i8 a0_4)) (ds := []) (zq 6 0) (by kernel_rfl) rfl rfl ⟨(blk_cell BK158.out 0).trans rfl, (blk_cell BK158.out 1).trans rfl, (blk_cell BK158.out 2).trans rfl, (blk_cell BK158.out 3).trans rfl, (blk_cell BK158.out 4).trans rfl⟩ (fun hHeld => ?_)
 generalize w13.drew = w14 at BK158 BK159 HB hHeld ⊢
 refine pure_ (i := 1) (N := some 17) (v := ?_) (a' := ?_) (zq 6 2) rfl rfl (by kernel_rfl) (fun _ _ _ h => h) (Or.inl ⟨by rfl, ?_⟩) ?_ ?_
 rotate_left
 ·intro w'
  go_simp
  with_reducible rfl
 rotate_left
 ·exact zap
 refine take_ (i := 0) (N := some 16) (v := ?_) (a' := ?_) (zq 6 3) rfl rfl (by kernel_rfl) (fun _ _ _ h => h) (Or.inl ⟨by rfl, ?_⟩) hHeld ?_ ?_
 rotate_left
 ·rintro w' ⟨s0, s1, s2, s3, s4⟩
  go_simp
  with_reducible rfl
 rotate_left
 ·exact zap
 refine one_ (i := 2) (N := some 18) (zq 6 7) rfl rfl (by kernel_rfl) (by decide) (fun K hK => ?_)
 refine goes_ Try.func21 (by kernel_rfl) rfl #[.int .i64 a1] (by rfl) rfl rfl zm ?_
 with_reducible refine (impl_turns.calls a1 t162 _ A7.out).mono ?_
 rintro e w' ⟨rfl, ⟨nd, rfl⟩⟩
 refine ⟨_, rfl, ?_⟩
 refine hK.out _ _ ⟨(blk_cell BK158.out 0).trans rfl, (blk_cell BK158.out 1).trans rfl, (blk_cell BK158.out 2).trans rfl, (blk_cell BK158.out 3).trans rfl, (blk_cell BK158.out 4).trans rfl⟩ (fun hHeld => ?_)
 clear hK K
 refine norm_ (a' := ?_) ?_ ?_
 rotate_left
 ·show Act.put _ (some 18) _ = _
  exact zap
 refine one_ (i := 3) (N := some 19) (zq 6 15) rfl rfl (by kernel_rfl) (by decide) (fun K hK => ?_)
 refine goes_ Try.func20 (by kernel_rfl) rfl #[.agg #[.int .i8 a0_0, .int .i8 a0_1, .int .i8 a0_2, .int .i8 a0_3, .int .i8 a0_4], .int .i64 t162] (by rfl) rfl rfl zm ?_
 with_reducible refine (impl_Piece_turned.calls a0_0 a0_1 a0_2 a0_3 a0_4 t162 t163 t164 t165 t166 t167 _ A8.out).mono ?_
 rintro e w15 ⟨rfl, hb⟩
 refine ⟨_, rfl, ?_⟩
 have n_ : _ ∧ _ ∧ _ := ⟨zk BK158 hb, zk BK159 hb, zbs hb⟩
 clear BK158 BK159 HB
 obtain ⟨BK158, BK159, HB⟩ := n_
 (try clear hb)
 (try clear hb2)
 (try clear hk)
 (try clear hi)
 refine hK.out _ _ ⟨(blk_cell BK158.out 0).trans rfl, (blk_cell BK158.out 1).trans rfl, (blk_cell BK158.out 2).trans rfl, (blk_cell BK158.out 3).trans rfl, (blk_cell BK158.out 4).trans rfl⟩ (fun hHeld => ?_)
 clear hK K
 refine norm_ (a' := ?_) ?_ ?_
 rotate_left
 ·show Act.put _ (some 19) _ = _
  exact zap
 refine one_ (i := 4) (N := none) (zq 6 31) rfl rfl (by kernel_rfl) (by decide) (fun K hK => ?_)
 have hs16 : w15.cell? ⟨gb159, 0, none⟩ = some (.int .i8 0) := (blk_cell BK159.out 0).trans rfl
 have hfs16 := blk_frozen BK159.out 0
 have hns16_0 := NB158_159.out
 have hms16_0 := NB159_158.out
 have hs17 : w15.cell? ⟨gb159, 1, none⟩ = some (.int .i8 0) := (blk_cell BK159.out 1).trans rfl
 have hfs17 := blk_frozen BK159.out 1
 have hns17_0 := NB158_159.out
 have hms17_0 := NB159_158.out
 have hs18 : w15.cell? ⟨gb159, 2, none⟩ = some (.int .i8 0) := (blk_cell BK159.out 2).trans rfl
 have hfs18 := blk_frozen BK159.out 2
 have hns18_0 := NB158_159.out
 have hms18_0 := NB159_158.out
 have hs19 : w15.cell? ⟨gb159, 3, none⟩ = some (.int .i8 0) := (blk_cell BK159.out 3).trans rfl
 have hfs19 := blk_frozen BK159.out 3
 have hns19_0 := NB158_159.out
 have hms19_0 := NB159_158.out
 have hs20 : w15.cell? ⟨gb159, 4, none⟩ = some (.int .i8 0) := (blk_cell BK159.out 4).trans rfl
 have hfs20 := blk_frozen BK159.out 4
 have hns20_0 := NB158_159.out
 have hms20_0 := NB159_158.out
 refine skip_ (w1 := ?_) (by rfl) rfl ?_ ?_
 rotate_left
 ·go_simp
  rfl
 refine hK.out _ _ ⟨((cell_far (p := ⟨gb159, _, none⟩) NB158_159.out _).trans (((cell_far (p := ⟨gb159, _, none⟩) NB158_159.out _).trans (((cell_far (p := ⟨gb159, _, none⟩) NB158_159.out _).trans (((cell_far (p := ⟨gb159, _, none⟩) NB158_159.out _).trans (((cell_far (p := ⟨gb159, _, none⟩) NB158_159.out _).trans (hHeld.1)))))))))), ((cell_far (p := ⟨gb159, _, none⟩) NB158_159.out _).trans (((cell_far (p := ⟨gb159, _, none⟩) NB158_159.out _).trans (((cell_far (p := ⟨gb159, _, none⟩) NB158_159.out _).trans (((cell_far (p := ⟨gb159, _, none⟩) NB158_159.out _).trans (((cell_far (p := ⟨gb159, _, none⟩) NB158_159.out _).trans (hHeld.2.1)))))))))), ((cell_far (p := ⟨gb159, _, none⟩) NB158_159.out _).trans (((cell_far (p := ⟨gb159, _, none⟩) NB158_159.out _).trans (((cell_far (p := ⟨gb159, _, none⟩) NB158_159.out _).trans (((cell_far (p := ⟨gb159, _, none⟩) NB158_159.out _).trans (((cell_far (p := ⟨gb159, _, none⟩) NB158_159.out _).trans (hHeld.2.2.1)))))))))), ((cell_far (p := ⟨gb159, _, none⟩) NB158_159.out _).trans (((cell_far (p := ⟨gb159, _, none⟩) NB158_159.out _).trans (((cell_far (p := ⟨gb159, _, none⟩) NB158_159.out _).trans (((cell_far (p := ⟨gb159, _, none⟩) NB158_159.out _).trans (((cell_far (p := ⟨gb159, _, none⟩) NB158_159.out _).trans (hHeld.2.2.2.1)))))))))), ((cell_far (p := ⟨gb159, _, none⟩) NB158_159.out _).trans (((cell_far (p := ⟨gb159, _, none⟩) NB158_159.out _).trans (((cell_far (p := ⟨gb159, _, none⟩) NB158_159.out _).trans (((cell_far (p := ⟨gb159, _, none⟩) NB158_159.out _).trans (((cell_far (p := ⟨gb159, _, none⟩) NB158_159.out _).trans (hHeld.2.2.2.2))))))))))⟩ (fun hHeld => ?_)
 clear hK K
 refine pure_ (i := 5) (N := some 5) (v := ?_) (a' := ?_) (zq 6 63) rfl rfl (by kernel_rfl) (fun _ _ _ h => h) (Or.inl ⟨by rfl, ?_⟩) ?_ ?_
 rotate_left
 ·intro w'
  go_simp
  with_reducible rfl
 rotate_left
 ·exact zap
 refine done_ (by kernel_rfl) ?_
 try go_wp2
 refine bodyPost_ret (results_ct rfl _ _ gb159 28 #[.int .i8 t163, .int .i8 t164, .int .i8 t165, .int .i8 t166, .int .i8 t167] (0, 0) _ rfl (zp BK159) Try.underlying28 rfl (by kernel_rfl)) rfl ?_
 exact ⟨zv, zbo⟩
def spec_l00In.f (a0 : Int) (a1 : Int) (a2 : Int) : Option (Bool) := if a0 ≥ a1 then (some (decide (a0 ≤ a2))) else (some false)
theorem spec_l00In.calls (a0 : Int) (a1 : Int) (a2 : Int) (r : Bool) (w : World) (h : spec_l00In.f a0 a1 a2 = some r) :
    Calls Try.prog 23 #[.int .i64 a0, .int .i64 a1, .int .i64 a2] w fun e w' => e = .returned (.bool r) ∧ Drawn0 w w' := by
 have H : (if a0 ≥ a1 then (some (decide (a0 ≤ a2))) else (some false)) = some r := h
 clear h
 by_cases c4 : a0 ≥ a1
 ·rw [if_pos c4] at H
  have c4b0 : decide (a1 ≤ a0) = true := decide_eq_true c4
  clear c4
  obtain rfl := Option.some.inj H
  go_enter Try.func23, Try.ntmps23
  go_wp2
  go_ret
  exact ⟨zi, zdr⟩
 rw [if_neg c4] at H
 have c4b0 : decide (a1 ≤ a0) = false := decide_eq_false c4
 clear c4
 obtain rfl := Option.some.inj H
 go_enter Try.func23, Try.ntmps23
 go_wp2
 go_ret
 exact ⟨zi, zdr⟩
def spec_l01In.f (a0_0 : Int) (a0_1 : Int) (a1 : Int) (a2 : Int) : Option (Bool) := (spec_l00In.f (wrap64 (a0_0)) 0 (wrap64 (a1 - 1))).bind fun t169 => (if t169 = true then ((spec_l00In.f (wrap64 (a0_1)) 0 (wrap64 (a2 - 1))).bind fun t170 => (some t170)) else (some false))
theorem spec_l01In.calls (a0_0 : Int) (a0_1 : Int) (a1 : Int) (a2 : Int) (r : Bool) (w : World) (h : spec_l01In.f a0_0 a0_1 a1 a2 = some r) :
    Calls Try.prog 36 #[.agg #[.int .i8 a0_0, .int .i8 a0_1], .int .i64 a1, .int .i64 a2] w fun e w' => e = .returned (.bool r) ∧ Below w.heap.size w w' := by
 have hu26 := Try.underlying26
 have HB := Aside0.mk (Below.refl w.heap.size w)
 have H : ((spec_l00In.f (wrap64 (a0_0)) 0 (wrap64 (a1 - 1))).bind fun t169 => (if t169 = true then ((spec_l00In.f (wrap64 (a0_1)) 0 (wrap64 (a2 - 1))).bind fun t170 => (some t170)) else (some false))) = some r := h
 clear h
 replace H := zob H
 obtain ⟨t169, A40, H⟩ := H
 replace H : (if t169 = true then ((spec_l00In.f (wrap64 (a0_1)) 0 (wrap64 (a2 - 1))).bind fun t170 => (some t170)) else (some false)) = some r := H
 have A4 := Aside0.mk A40
 clear A40
 by_cases c5 : t169 = true
 rotate_left
 ·replace c5 := Bool.eq_false_iff.mpr c5
  subst c5
  have H1 : (some false) = some r := by rw [if_neg (show ¬ (false = true) by decide)] at H; exact H
  clear H
  have H := H1
  clear H1
  obtain rfl := Option.some.inj H
  go_enter Try.func36, Try.ntmps36
  go_wp2_with (first | ((with_reducible refine gate_dst (N := 3) rfl ?_); refine zbx 3 #[.int .i8 a0_0, .int .i8 a0_1] 26 ?_; intro gb168 hg w9 hbox hb; have n_ : _ ∧ _ ∧ _ ∧ _ := ⟨zb HB hb, Aside0.mk (hbox), zg HB hg, zg HB hg⟩; clear HB; obtain ⟨HB, BK168, GW168, GE168⟩ := n_; clear hb hbox hg; obtain ⟨z10_0, z10_1, y10_0, y10_1⟩ := zB2 BK168) | ((with_reducible refine gate_callee (f := 23) rfl ?_); refine goesL_ (some 12) rfl rfl Try.func23 (by kernel_rfl) rfl #[.int .i64 (wrap64 (a0_0)), .int .i64 0, .int .i64 (wrap64 (a1 - 1))] rfl zm ?_; (with_reducible refine (spec_l00In.calls (wrap64 (a0_0)) 0 (wrap64 (a1 - 1)) false _ A4.out).mono ?_); rintro e w' ⟨rfl, ⟨nd, rfl⟩⟩; refine ⟨_, rfl, ?_⟩))
  go_ret
  exact ⟨zv, zbo⟩
 subst c5
 have H1 : ((spec_l00In.f (wrap64 (a0_1)) 0 (wrap64 (a2 - 1))).bind fun t170 => (some t170)) = some r := by rw [if_pos rfl] at H; exact H
 clear H
 have H := H1
 clear H1
 replace H := zob H
 obtain ⟨t170, A60, H⟩ := H
 replace H : (some t170) = some r := H
 have A6 := Aside0.mk A60
 clear A60
 obtain rfl := Option.some.inj H
 go_enter Try.func36, Try.ntmps36
 go_wp2_with (first | ((with_reducible refine gate_dst (N := 3) rfl ?_); refine zbx 3 #[.int .i8 a0_0, .int .i8 a0_1] 26 ?_; intro gb168 hg w7 hbox hb; have n_ : _ ∧ _ ∧ _ ∧ _ := ⟨zb HB hb, Aside0.mk (hbox), zg HB hg, zg HB hg⟩; clear HB; obtain ⟨HB, BK168, GW168, GE168⟩ := n_; clear hb hbox hg; obtain ⟨z8_0, z8_1, y8_0, y8_1⟩ := zB2 BK168) | ((with_reducible refine gate_callee (f := 23) rfl ?_); refine goesL_ (some 12) rfl rfl Try.func23 (by kernel_rfl) rfl #[.int .i64 (wrap64 (a0_0)), .int .i64 0, .int .i64 (wrap64 (a1 - 1))] rfl zm ?_; (with_reducible refine (spec_l00In.calls (wrap64 (a0_0)) 0 (wrap64 (a1 - 1)) true _ A4.out).mono ?_); rintro e w' ⟨rfl, ⟨nd, rfl⟩⟩; refine ⟨_, rfl, ?_⟩) | (go_at_call 23; (with_reducible refine (spec_l00In.calls (wrap64 (a0_1)) 0 (wrap64 (a2 - 1)) t170 _ A6.out).mono ?_); rintro e w' ⟨rfl, ⟨nd, rfl⟩⟩))
 go_ret
 exact ⟨zv, zbo⟩
def spec_l01Piece.f (l0 : List (S28)) : Option (Bool) := if 0 < (l0.length : Int) then ((spec_l00In.f (wrap64 ((rd_T28 l0 0).f1)) 0 5).bind fun t172 => (if t172 = true then ((spec_l00In.f (wrap64 ((rd_T28 l0 0).f2)) 0 3).bind fun t174 => (if t174 = true then ((spec_l00In.f (wrap64 ((rd_T28 l0 0).f3)) 1 9).bind fun t176 => (if t176 = true then ((spec_l01In.f ((rd_T28 l0 0).f0.f0) ((rd_T28 l0 0).f0.f1) 24 24).bind fun t178 => (some t178)) else (some false))) else (some false))) else (some false))) else (none)
theorem spec_l01Piece.calls (adp0 : Addr) (l0 : List (S28)) (r : Bool) (w : World) (hr0 : Kd.C k28 w (some adp0) l0.length l0) (h : spec_l01Piece.f l0 = some r) :
    Calls Try.prog 22 #[.pointer (some adp0)] w fun e w' => e = .returned (.bool r) ∧ Below w.heap.size w w' := by
 have hu26 := Try.underlying26
 have HR0 := Aside0.mk hr0
 clear hr0
 have HB := Aside0.mk (Below.refl w.heap.size w)
 have H : (if 0 < (l0.length : Int) then ((spec_l00In.f (wrap64 ((rd_T28 l0 0).f1)) 0 5).bind fun t172 => (if t172 = true then ((spec_l00In.f (wrap64 ((rd_T28 l0 0).f2)) 0 3).bind fun t174 => (if t174 = true then ((spec_l00In.f (wrap64 ((rd_T28 l0 0).f3)) 1 9).bind fun t176 => (if t176 = true then ((spec_l01In.f ((rd_T28 l0 0).f0.f0) ((rd_T28 l0 0).f0.f1) 24 24).bind fun t178 => (some t178)) else (some false))) else (some false))) else (some false))) else (none)) = some r := h
 clear h
 by_cases c2 : 0 < (l0.length : Int)
 rotate_left
 ·rw [if_neg c2] at H
  exact absurd H (by simp)
 rw [if_pos c2] at H
 have c2b0 : decide (0 < (l0.length : Int)) = true := decide_eq_true c2
 have c2b1 : decide (0 < l0.length) = true := decide_eq_true (by omega)
 clear c2
 replace H := zob H
 obtain ⟨t172, A30, H⟩ := H
 replace H : (if t172 = true then ((spec_l00In.f (wrap64 ((rd_T28 l0 0).f2)) 0 3).bind fun t174 => (if t174 = true then ((spec_l00In.f (wrap64 ((rd_T28 l0 0).f3)) 1 9).bind fun t176 => (if t176 = true then ((spec_l01In.f ((rd_T28 l0 0).f0.f0) ((rd_T28 l0 0).f0.f1) 24 24).bind fun t178 => (some t178)) else (some false))) else (some false))) else (some false)) = some r := H
 have A3 := Aside0.mk A30
 clear A30
 by_cases c4 : t172 = true
 rotate_left
 ·replace c4 := Bool.eq_false_iff.mpr c4
  subst c4
  have H1 : (some false) = some r := by rw [if_neg (show ¬ (false = true) by decide)] at H; exact H
  clear H
  have H := H1
  clear H1
  obtain rfl := Option.some.inj H
  have p171 : 0 ≤ (0 : Int) := (by omega)
  have q171 : 0 < (l0.length : Int) := of_decide_eq_true zA
  obtain ⟨ad171, e171, hx171_0, hx171_1, hx171_2, hx171_3, hx171_4⟩ := at_T28 HR0.out 0 p171 q171
  obtain rfl : adp0 = ad171 := (by injection e171)
  have qi171 : (0 < l0.length) = True := eq_true (by omega)
  try simp only [z00, Nat.zero_mul, Addr.add_zero'] at hx171_0 hx171_1 hx171_2 hx171_3 hx171_4
  replace p171 := eq_true p171
  replace q171 := eq_true q171
  go_enter Try.func22, Try.ntmps22
  go_wp2_with (first | ((with_reducible refine gate_callee (f := 23) rfl ?_); refine goesL_ (some 8) rfl rfl Try.func23 (by kernel_rfl) rfl #[.int .i64 (wrap64 ((rd_T28 l0 0).f1)), .int .i64 0, .int .i64 5] rfl zm ?_; (with_reducible refine (spec_l00In.calls (wrap64 ((rd_T28 l0 0).f1)) 0 5 false _ A3.out).mono ?_); rintro e w' ⟨rfl, ⟨nd, rfl⟩⟩; refine ⟨_, rfl, ?_⟩))
  go_ret
  exact ⟨zv, zbo⟩
 subst c4
 have H1 : ((spec_l00In.f (wrap64 ((rd_T28 l0 0).f2)) 0 3).bind fun t174 => (if t174 = true then ((spec_l00In.f (wrap64 ((rd_T28 l0 0).f3)) 1 9).bind fun t176 => (if t176 = true then ((spec_l01In.f ((rd_T28 l0 0).f0.f0) ((rd_T28 l0 0).f0.f1) 24 24).bind fun t178 => (some t178)) else (some false))) else (some false))) = some r := by rw [if_pos rfl] at H; exact H
 clear H
 have H := H1
 clear H1
 replace H := zob H
 obtain ⟨t174, A50, H⟩ := H
 replace H : (if t174 = true then ((spec_l00In.f (wrap64 ((rd_T28 l0 0).f3)) 1 9).bind fun t176 => (if t176 = true then ((spec_l01In.f ((rd_T28 l0 0).f0.f0) ((rd_T28 l0 0).f0.f1) 24 24).bind fun t178 => (some t178)) else (some false))) else (some false)) = some r := H
 have A5 := Aside0.mk A50
 clear A50
 by_cases c6 : t174 = true
 rotate_left
 ·replace c6 := Bool.eq_false_iff.mpr c6
  subst c6
  have H1 : (some false) = some r := by rw [if_neg (show ¬ (false = true) by decide)] at H; exact H
  clear H
  have H := H1
  clear H1
  obtain rfl := Option.some.inj H
  have p171 : 0 ≤ (0 : Int) := (by omega)
  have q171 : 0 < (l0.length : Int) := of_decide_eq_true zA
  obtain ⟨ad171, e171, hx171_0, hx171_1, hx171_2, hx171_3, hx171_4⟩ := at_T28 HR0.out 0 p171 q171
  obtain rfl : adp0 = ad171 := (by injection e171)
  have qi171 : (0 < l0.length) = True := eq_true (by omega)
  try simp only [z00, Nat.zero_mul, Addr.add_zero'] at hx171_0 hx171_1 hx171_2 hx171_3 hx171_4
  replace p171 := eq_true p171
  replace q171 := eq_true q171
  go_enter Try.func22, Try.ntmps22
  go_wp2_with (first | ((with_reducible refine gate_callee (f := 23) rfl ?_); refine goesL_ (some 8) rfl rfl Try.func23 (by kernel_rfl) rfl #[.int .i64 (wrap64 ((rd_T28 l0 0).f1)), .int .i64 0, .int .i64 5] rfl zm ?_; (with_reducible refine (spec_l00In.calls (wrap64 ((rd_T28 l0 0).f1)) 0 5 true _ A3.out).mono ?_); rintro e w' ⟨rfl, ⟨nd, rfl⟩⟩; refine ⟨_, rfl, ?_⟩; have p173 : 0 ≤ (0 : Int) := (by omega); have q173 : 0 < (l0.length : Int) := of_decide_eq_true zA; obtain ⟨ad173, e173, hx173_0, hx173_1, hx173_2, hx173_3, hx173_4⟩ := at_T28 HR0.out 0 p173 q173; obtain rfl : adp0 = ad173 := (by injection e173); have qi173 : (0 < l0.length) = True := eq_true (by omega); (try simp only [z00, Nat.zero_mul, Addr.add_zero'] at hx173_0 hx173_1 hx173_2 hx173_3 hx173_4); replace p173 := eq_true p173; replace q173 := eq_true q173) | (go_at_call 23; (with_reducible refine (spec_l00In.calls (wrap64 ((rd_T28 l0 0).f2)) 0 3 false _ A5.out).mono ?_); rintro e w' ⟨rfl, ⟨nd, rfl⟩⟩))
  go_ret
  exact ⟨zv, zbo⟩
 subst c6
 have H1 : ((spec_l00In.f (wrap64 ((rd_T28 l0 0).f3)) 1 9).bind fun t176 => (if t176 = true then ((spec_l01In.f ((rd_T28 l0 0).f0.f0) ((rd_T28 l0 0).f0.f1) 24 24).bind fun t178 => (some t178)) else (some false))) = some r := by rw [if_pos rfl] at H; exact H
 clear H
 have H := H1
 clear H1
 replace H := zob H
 obtain ⟨t176, A70, H⟩ := H
 replace H : (if t176 = true then ((spec_l01In.f ((rd_T28 l0 0).f0.f0) ((rd_T28 l0 0).f0.f1) 24 24).bind fun t178 => (some t178)) else (some false)) = some r := H
 have A7 := Aside0.mk A70
 clear A70
 by_cases c8 : t176 = true
 rotate_left
 ·replace c8 := Bool.eq_false_iff.mpr c8
  subst c8
  have H1 : (some false) = some r := by rw [if_neg (show ¬ (false = true) by decide)] at H; exact H
  clear H
  have H := H1
  clear H1
  obtain rfl := Option.some.inj H
  have p171 : 0 ≤ (0 : Int) := (by omega)
  have q171 : 0 < (l0.length : Int) := of_decide_eq_true zA
  obtain ⟨ad171, e171, hx171_0, hx171_1, hx171_2, hx171_3, hx171_4⟩ := at_T28 HR0.out 0 p171 q171
  obtain rfl : adp0 = ad171 := (by injection e171)
  have qi171 : (0 < l0.length) = True := eq_true (by omega)
  try simp only [z00, Nat.zero_mul, Addr.add_zero'] at hx171_0 hx171_1 hx171_2 hx171_3 hx171_4
  replace p171 := eq_true p171
  replace q171 := eq_true q171
  go_enter Try.func22, Try.ntmps22
  go_wp2_with (first | ((with_reducible refine gate_callee (f := 23) rfl ?_); refine goesL_ (some 8) rfl rfl Try.func23 (by kernel_rfl) rfl #[.int .i64 (wrap64 ((rd_T28 l0 0).f1)), .int .i64 0, .int .i64 5] rfl zm ?_; (with_reducible refine (spec_l00In.calls (wrap64 ((rd_T28 l0 0).f1)) 0 5 true _ A3.out).mono ?_); rintro e w' ⟨rfl, ⟨nd, rfl⟩⟩; refine ⟨_, rfl, ?_⟩; have p173 : 0 ≤ (0 : Int) := (by omega); have q173 : 0 < (l0.length : Int) := of_decide_eq_true zA; obtain ⟨ad173, e173, hx173_0, hx173_1, hx173_2, hx173_3, hx173_4⟩ := at_T28 HR0.out 0 p173 q173; obtain rfl : adp0 = ad173 := (by injection e173); have qi173 : (0 < l0.length) = True := eq_true (by omega); (try simp only [z00, Nat.zero_mul, Addr.add_zero'] at hx173_0 hx173_1 hx173_2 hx173_3 hx173_4); replace p173 := eq_true p173; replace q173 := eq_true q173) | (go_at_call 23; (with_reducible refine (spec_l00In.calls (wrap64 ((rd_T28 l0 0).f2)) 0 3 true _ A5.out).mono ?_); rintro e w' ⟨rfl, ⟨nd, rfl⟩⟩; have p175 : 0 ≤ (0 : Int) := (by omega); have q175 : 0 < (l0.length : Int) := of_decide_eq_true zA; obtain ⟨ad175, e175, hx175_0, hx175_1, hx175_2, hx175_3, hx175_4⟩ := at_T28 HR0.out 0 p175 q175; obtain rfl : adp0 = ad175 := (by injection e175); have qi175 : (0 < l0.length) = True := eq_true (by omega); (try simp only [z00, Nat.zero_mul, Addr.add_zero'] at hx175_0 hx175_1 hx175_2 hx175_3 hx175_4); replace p175 := eq_true p175; replace q175 := eq_true q175) | (go_at_call 23; (with_reducible refine (spec_l00In.calls (wrap64 ((rd_T28 l0 0).f3)) 1 9 false _ A7.out).mono ?_); rintro e w' ⟨rfl, ⟨nd, rfl⟩⟩))
  go_ret
  exact ⟨zv, zbo⟩
 subst c8
 have H1 : ((spec_l01In.f ((rd_T28 l0 0).f0.f0) ((rd_T28 l0 0).f0.f1) 24 24).bind fun t178 => (some t178)) = some r := by rw [if_pos rfl] at H; exact H
 clear H
 have H := H1
 clear H1
 replace H := zob H
 obtain ⟨t178, A90, H⟩ := H
 replace H : (some t178) = some r := H
 have A9 := Aside0.mk A90
 clear A90
 obtain rfl := Option.some.inj H
 have p171 : 0 ≤ (0 : Int) := (by omega)
 have q171 : 0 < (l0.length : Int) := of_decide_eq_true zA
 obtain ⟨ad171, e171, hx171_0, hx171_1, hx171_2, hx171_3, hx171_4⟩ := at_T28 HR0.out 0 p171 q171
 obtain rfl : adp0 = ad171 := (by injection e171)
 have qi171 : (0 < l0.length) = True := eq_true (by omega)
 try simp only [z00, Nat.zero_mul, Addr.add_zero'] at hx171_0 hx171_1 hx171_2 hx171_3 hx171_4
 replace p171 := eq_true p171
 replace q171 := eq_true q171
 go_enter Try.func22, Try.ntmps22
 go_wp2_with (first | ((with_reducible refine gate_callee (f := 23) rfl ?_); refine goesL_ (some 8) rfl rfl Try.func23 (by kernel_rfl) rfl #[.int .i64 (wrap64 ((rd_T28 l0 0).f1)), .int .i64 0, .int .i64 5] rfl zm ?_; (with_reducible refine (spec_l00In.calls (wrap64 ((rd_T28 l0 0).f1)) 0 5 true _ A3.out).mono ?_); rintro e w' ⟨rfl, ⟨nd, rfl⟩⟩; refine ⟨_, rfl, ?_⟩; have p173 : 0 ≤ (0 : Int) := (by omega); have q173 : 0 < (l0.length : Int) := of_decide_eq_true zA; obtain ⟨ad173, e173, hx173_0, hx173_1, hx173_2, hx173_3, hx173_4⟩ := at_T28 HR0.out 0 p173 q173; obtain rfl : adp0 = ad173 := (by injection e173); have qi173 : (0 < l0.length) = True := eq_true (by omega); (try simp only [z00, Nat.zero_mul, Addr.add_zero'] at hx173_0 hx173_1 hx173_2 hx173_3 hx173_4); replace p173 := eq_true p173; replace q173 := eq_true q173) | (go_at_call 23; (with_reducible refine (spec_l00In.calls (wrap64 ((rd_T28 l0 0).f2)) 0 3 true _ A5.out).mono ?_); rintro e w' ⟨rfl, ⟨nd, rfl⟩⟩; have p175 : 0 ≤ (0 : Int) := (by omega); have q175 : 0 < (l0.length : Int) := of_decide_eq_true zA; obtain ⟨ad175, e175, hx175_0, hx175_1, hx175_2, hx175_3, hx175_4⟩ := at_T28 HR0.out 0 p175 q175; obtain rfl : adp0 = ad175 := (by injection e175); have qi175 : (0 < l0.length) = True := eq_true (by omega); (try simp only [z00, Nat.zero_mul, Addr.add_zero'] at hx175_0 hx175_1 hx175_2 hx175_3 hx175_4); replace p175 := eq_true p175; replace q175 := eq_true q175) | (go_at_call 23; (with_reducible refine (spec_l00In.calls (wrap64 ((rd_T28 l0 0).f3)) 1 9 true _ A7.out).mono ?_); rintro e w' ⟨rfl, ⟨nd, rfl⟩⟩; have p177 : 0 ≤ (0 : Int) := (by omega); have q177 : 0 < (l0.length : Int) := of_decide_eq_true zA; obtain ⟨ad177, e177, hx177_0, hx177_1, hx177_2, hx177_3, hx177_4⟩ := at_T28 HR0.out 0 p177 q177; obtain rfl : adp0 = ad177 := (by injection e177); have qi177 : (0 < l0.length) = True := eq_true (by omega); (try simp only [z00, Nat.zero_mul, Addr.add_zero'] at hx177_0 hx177_1 hx177_2 hx177_3 hx177_4); replace p177 := eq_true p177; replace q177 := eq_true q177) | (go_at_call 36; (with_reducible refine (spec_l01In.calls ((rd_T28 l0 0).f0.f0) ((rd_T28 l0 0).f0.f1) 24 24 t178 _ A9.out).mono ?_); rintro e w10 ⟨rfl, hb⟩; have n0_ := zb HB hb; clear HB; have HB := n0_; clear n0_; (try clear hb); (try clear hb2); (try clear hk); (try clear hi)))
 go_ret
 exact ⟨zv, zbo⟩
def spec_l01Quarters.f (a0 : Int) (a1 : Int) : Option (Int) := some (IntKind.i8.wrap (Int.tmod (wrap64 ((Int.tmod (wrap64 ((wrap64 (a0)) + a1)) 4) + 4)) 4))
theorem spec_l01Quarters.calls (a0 : Int) (a1 : Int) (r : Int) (w : World) (h : spec_l01Quarters.f a0 a1 = some r) :
    Calls Try.prog 24 #[.int .i8 a0, .int .i64 a1] w fun e w' => e = .returned (.int .i8 r) ∧ Drawn0 w w' := by
 have H : (some (IntKind.i8.wrap (Int.tmod (wrap64 ((Int.tmod (wrap64 ((wrap64 (a0)) + a1)) 4) + 4)) 4))) = some r := h
 clear h
 obtain rfl := Option.some.inj H
 go_enter Try.func24, Try.ntmps24
 go_wp2
 go_ret
 exact ⟨zi, zdr⟩
def spec_TurnPiece.f (a0_0 : Int) (a0_1 : Int) (a0_2 : Int) (a0_3 : Int) (a0_4 : Int) (a1 : Int) : Option (Int × Int × Int × Int × Int × Int) := (spec_l01Piece.f [(⟨(⟨a0_0, a0_1⟩ : S26), a0_2, a0_3, a0_4⟩ : S28)]).bind fun t181 => (if t181 = true then ((spec_l00In.f a1 (-100) 100).bind fun t182 => (if t182 = true then ((spec_l01Quarters.f a0_3 a1).bind fun t183 => (some (a0_0, a0_1, a0_2, t183, a0_4, 0))) else (some (0, 0, 0, 0, 0, 2)))) else (some (0, 0, 0, 0, 0, 1)))
theorem spec_TurnPiece.calls (a0_0 : Int) (a0_1 : Int) (a0_2 : Int) (a0_3 : Int) (a0_4 : Int) (a1 : Int) (r1 : Int) (r2 : Int) (r3 : Int) (r4 : Int) (r5 : Int) (r6 : Int) (w : World) (h : spec_TurnPiece.f a0_0 a0_1 a0_2 a0_3 a0_4 a1 = some (r1, r2, r3, r4, r5, r6)) :
    Calls Try.prog 8 #[.agg #[.int .i8 a0_0, .int .i8 a0_1, .int .i8 a0_2, .int .i8 a0_3, .int .i8 a0_4], .int .i64 a1] w fun e w' => e = .returned (.tuple #[.agg #[.int .i8 r1, .int .i8 r2, .int .i8 r3, .int .i8 r4, .int .i8 r5], .int .i64 r6]) ∧ Below w.heap.size w w' := by
 have hu28 := Try.underlying28
 have HB := Aside0.mk (Below.refl w.heap.size w)
 have H : ((spec_l01Piece.f [(⟨(⟨a0_0, a0_1⟩ : S26), a0_2, a0_3, a0_4⟩ : S28)]).bind fun t181 => (if t181 = true then ((spec_l00In.f a1 (-100) 100).bind fun t182 => (if t182 = true then ((spec_l01Quarters.f a0_3 a1).bind fun t183 => (some (a0_0, a0_1, a0_2, t183, a0_4, 0))) else (some (0, 0, 0, 0, 0, 2)))) else (some (0, 0, 0, 0, 0, 1)))) = some (r1, r2, r3, r4, r5, r6) := h
 clear h
 replace H := zob H
 obtain ⟨t181, A30, H⟩ := H
 replace H : (if t181 = true then ((spec_l00In.f a1 (-100) 100).bind fun t182 => (if t182 = true then ((spec_l01Quarters.f a0_3 a1).bind fun t183 => (some (a0_0, a0_1, a0_2, t183, a0_4, 0))) else (some (0, 0, 0, 0, 0, 2)))) else (some (0, 0, 0, 0, 0, 1))) = some (r1, r2, r3, r4, r5, r6) := H
 have A3 := Aside0.mk A30
 clear A30
 by_cases c4 : t181 = true
 rotate_left
 ·replace c4 := Bool.eq_false_iff.mpr c4
  subst c4
  have H1 : (some (0, 0, 0, 0, 0, 1)) = some (r1, r2, r3, r4, r5, r6) := by rw [if_neg (show ¬ (false = true) by decide)] at H; exact H
  clear H
  have H := H1
  clear H1
  simp only [Option.some.injEq, Prod.mk.injEq] at H
  obtain ⟨rfl, rfl, rfl, rfl, rfl, rfl⟩ := H
  go_enter Try.func8, Try.ntmps8
  go_wp2_with (first | ((with_reducible refine gate_dst (N := 2) rfl ?_); refine zbx 2 #[.int .i8 a0_0, .int .i8 a0_1, .int .i8 a0_2, .int .i8 a0_3, .int .i8 a0_4] 28 ?_; intro gb179 hg w20 hbox hb; have n_ : _ ∧ _ ∧ _ ∧ _ := ⟨zb HB hb, Aside0.mk (hbox), zg HB hg, zg HB hg⟩; clear HB; obtain ⟨HB, BK179, GW179, GE179⟩ := n_; clear hb hbox hg) | ((with_reducible refine gate_dst (N := 4) rfl ?_); refine zbx 4 #[.int .i8 0, .int .i8 0, .int .i8 0, .int .i8 0, .int .i8 0] 28 ?_; intro gb180 hg w21 hbox hb; have n_ : _ ∧ _ ∧ _ ∧ _ ∧ _ ∧ _ ∧ _ := ⟨zk BK179 hb, zbs hb, Aside0.mk (hbox), zg HB hg, zg HB hg, zn1 BK179 hg, zn2 BK179 hg⟩; clear BK179 HB; obtain ⟨BK179, HB, BK180, GW180, GE180, NB179_180, NB180_179⟩ := n_; clear hb hbox hg) | ((with_reducible refine gate_callee (f := 22) rfl ?_); refine goesL_ (some 6) rfl rfl Try.func22 (by kernel_rfl) rfl #[.pointer (some ⟨gb179, 0, none⟩)] rfl zm ?_; (with_reducible refine (spec_l01Piece.calls _ [(⟨(⟨a0_0, a0_1⟩ : S26), a0_2, a0_3, a0_4⟩ : S28)] false _ ?side1 A3.out).mono ?_); (case side1 => refine ro_of_blk (T := 28) (cs := #[.int .i8 a0_0, .int .i8 a0_1, .int .i8 a0_2, .int .i8 a0_3, .int .i8 a0_4]) (zh BK179).out ?_; exact k28_mk _ (⟨(⟨a0_0, a0_1⟩ : S26), a0_2, a0_3, a0_4⟩ : S28) ); rintro e w22 ⟨rfl, hb⟩; refine ⟨_, rfl, ?_⟩; have n_ : _ ∧ _ ∧ _ := ⟨zk BK179 hb, zk BK180 hb, zbs hb⟩; clear BK179 BK180 HB; obtain ⟨BK179, BK180, HB⟩ := n_; (try clear hb); (try clear hb2); (try clear hk); (try clear hi); have hnb23 := NB180_179.out; have hnc23 := NB179_180.out; obtain ⟨z24_0, z24_1, z24_2, z24_3, z24_4, y24_0, y24_1, y24_2, y24_3, y24_4⟩ := zB5 BK180))
  refine bodyPost_ret (results_ct rfl _ _ gb180 28 #[.int .i8 0, .int .i8 0, .int .i8 0, .int .i8 0, .int .i8 0] (0, 0) _ rfl (zp BK180) Try.underlying28 rfl (by kernel_rfl)) rfl ?_
  exact ⟨zv, zbo⟩
 subst c4
 have H1 : ((spec_l00In.f a1 (-100) 100).bind fun t182 => (if t182 = true then ((spec_l01Quarters.f a0_3 a1).bind fun t183 => (some (a0_0, a0_1, a0_2, t183, a0_4, 0))) else (some (0, 0, 0, 0, 0, 2)))) = some (r1, r2, r3, r4, r5, r6) := by rw [if_pos rfl] at H; exact H
 clear H
 have H := H1
 clear H1
 replace H := zob H
 obtain ⟨t182, A50, H⟩ := H
 replace H : (if t182 = true then ((spec_l01Quarters.f a0_3 a1).bind fun t183 => (some (a0_0, a0_1, a0_2, t183, a0_4, 0))) else (some (0, 0, 0, 0, 0, 2))) = some (r1, r2, r3, r4, r5, r6) := H
 have A5 := Aside0.mk A50
 clear A50
 by_cases c6 : t182 = true
 rotate_left
 ·replace c6 := Bool.eq_false_iff.mpr c6
  subst c6
  have H1 : (some (0, 0, 0, 0, 0, 2)) = some (r1, r2, r3, r4, r5, r6) := by rw [if_neg (show ¬ (false = true) by decide)] at H; exact H
  clear H
  have H := H1
  clear H1
  simp only [Option.some.injEq, Prod.mk.injEq] at H
  obtain ⟨rfl, rfl, rfl, rfl, rfl, rfl⟩ := H
  go_enter Try.func8, Try.ntmps8
  go_wp2_with (first | ((with_reducible refine gate_dst (N := 2) rfl ?_); refine zbx 2 #[.int .i8 a0_0, .int .i8 a0_1, .int .i8 a0_2, .int .i8 a0_3, .int .i8 a0_4] 28 ?_; intro gb179 hg w15 hbox hb; have n_ : _ ∧ _ ∧ _ ∧ _ := ⟨zb HB hb, Aside0.mk (hbox), zg HB hg, zg HB hg⟩; clear HB; obtain ⟨HB, BK179, GW179, GE179⟩ := n_; clear hb hbox hg) | ((with_reducible refine gate_dst (N := 4) rfl ?_); refine zbx 4 #[.int .i8 0, .int .i8 0, .int .i8 0, .int .i8 0, .int .i8 0] 28 ?_; intro gb180 hg w16 hbox hb; have n_ : _ ∧ _ ∧ _ ∧ _ ∧ _ ∧ _ ∧ _ := ⟨zk BK179 hb, zbs hb, Aside0.mk (hbox), zg HB hg, zg HB hg, zn1 BK179 hg, zn2 BK179 hg⟩; clear BK179 HB; obtain ⟨BK179, HB, BK180, GW180, GE180, NB179_180, NB180_179⟩ := n_; clear hb hbox hg) | ((with_reducible refine gate_callee (f := 22) rfl ?_); refine goesL_ (some 6) rfl rfl Try.func22 (by kernel_rfl) rfl #[.pointer (some ⟨gb179, 0, none⟩)] rfl zm ?_; (with_reducible refine (spec_l01Piece.calls _ [(⟨(⟨a0_0, a0_1⟩ : S26), a0_2, a0_3, a0_4⟩ : S28)] true _ ?side1 A3.out).mono ?_); (case side1 => refine ro_of_blk (T := 28) (cs := #[.int .i8 a0_0, .int .i8 a0_1, .int .i8 a0_2, .int .i8 a0_3, .int .i8 a0_4]) (zh BK179).out ?_; exact k28_mk _ (⟨(⟨a0_0, a0_1⟩ : S26), a0_2, a0_3, a0_4⟩ : S28) ); rintro e w17 ⟨rfl, hb⟩; refine ⟨_, rfl, ?_⟩; have n_ : _ ∧ _ ∧ _ := ⟨zk BK179 hb, zk BK180 hb, zbs hb⟩; clear BK179 BK180 HB; obtain ⟨BK179, BK180, HB⟩ := n_; (try clear hb); (try clear hb2); (try clear hk); (try clear hi)) | ((with_reducible refine gate_callee (f := 23) rfl ?_); refine goesL_ (some 10) rfl rfl Try.func23 (by kernel_rfl) rfl #[.int .i64 a1, .int .i64 (-100), .int .i64 100] rfl zm ?_; (with_reducible refine (spec_l00In.calls a1 (-100) 100 false _ A5.out).mono ?_); rintro e w' ⟨rfl, ⟨nd, rfl⟩⟩; refine ⟨_, rfl, ?_⟩; (try (rw [drewN_self w17]; generalize hq_ : World.drewN w17 _ = w17; have n0_ : Aside0 (w17.heap[gb179]? = some (.cells #[.int .i8 a0_0, .int .i8 a0_1, .int .i8 a0_2, .int .i8 a0_3, .int .i8 a0_4] 28 (0, 0))) := ⟨by rw [← hq_]; exact (zh BK179).out⟩; have n1_ : Aside0 (w17.heap[gb180]? = some (.cells #[.int .i8 0, .int .i8 0, .int .i8 0, .int .i8 0, .int .i8 0] 28 (0, 0))) := ⟨by rw [← hq_]; exact (zh BK180).out⟩; have n2_ : Aside0 (Below w.heap.size w w17) := ⟨by rw [← hq_]; exact zbo⟩; clear BK179 BK180 HB hq_; have BK179 := n0_; have BK180 := n1_; have HB := n2_; clear n0_ n1_ n2_)); have hnb18 := NB180_179.out; have hnc18 := NB179_180.out; obtain ⟨z19_0, z19_1, z19_2, z19_3, z19_4, y19_0, y19_1, y19_2, y19_3, y19_4⟩ := zB5 BK180))
  refine bodyPost_ret (results_ct rfl _ _ gb180 28 #[.int .i8 0, .int .i8 0, .int .i8 0, .int .i8 0, .int .i8 0] (0, 0) _ rfl (zp BK180) Try.underlying28 rfl (by kernel_rfl)) rfl ?_
  exact ⟨zv, zbo⟩
 subst c6
 have H1 : ((spec_l01Quarters.f a0_3 a1).bind fun t183 => (some (a0_0, a0_1, a0_2, t183, a0_4, 0))) = some (r1, r2, r3, r4, r5, r6) := by rw [if_pos rfl] at H; exact H
 clear H
 have H := H1
 clear H1
 replace H := zob H
 obtain ⟨t183, A70, H⟩ := H
 replace H : (some (a0_0, a0_1, a0_2, t183, a0_4, 0)) = some (r1, r2, r3, r4, r5, r6) := H
 have A7 := Aside0.mk A70
 clear A70
 simp only [Option.some.injEq, Prod.mk.injEq] at H
 obtain ⟨rfl, rfl, rfl, rfl, rfl, rfl⟩ := H
 go_enter Try.func8, Try.ntmps8
 go_wp2_with (first | ((with_reducible refine gate_dst (N := 2) rfl ?_); refine zbx 2 #[.int .i8 a0_0, .int .i8 a0_1, .int .i8 a0_2, .int .i8 a0_3, .int .i8 a0_4] 28 ?_; intro gb179 hg w8 hbox hb; have n_ : _ ∧ _ ∧ _ ∧ _ := ⟨zb HB hb, Aside0.mk (hbox), zg HB hg, zg HB hg⟩; clear HB; obtain ⟨HB, BK179, GW179, GE179⟩ := n_; clear hb hbox hg) | ((with_reducible refine gate_dst (N := 4) rfl ?_); refine zbx 4 #[.int .i8 0, .int .i8 0, .int .i8 0, .int .i8 0, .int .i8 0] 28 ?_; intro gb180 hg w9 hbox hb; have n_ : _ ∧ _ ∧ _ ∧ _ ∧ _ ∧ _ ∧ _ := ⟨zk BK179 hb, zbs hb, Aside0.mk (hbox), zg HB hg, zg HB hg, zn1 BK179 hg, zn2 BK179 hg⟩; clear BK179 HB; obtain ⟨BK179, HB, BK180, GW180, GE180, NB179_180, NB180_179⟩ := n_; clear hb hbox hg) | ((with_reducible refine gate_callee (f := 22) rfl ?_); refine goesL_ (some 6) rfl rfl Try.func22 (by kernel_rfl) rfl #[.pointer (some ⟨gb179, 0, none⟩)] rfl zm ?_; (with_reducible refine (spec_l01Piece.calls _ [(⟨(⟨a0_0, a0_1⟩ : S26), a0_2, a0_3, a0_4⟩ : S28)] true _ ?side1 A3.out).mono ?_); (case side1 => refine ro_of_blk (T := 28) (cs := #[.int .i8 a0_0, .int .i8 a0_1, .int .i8 a0_2, .int .i8 a0_3, .int .i8 a0_4]) (zh BK179).out ?_; exact k28_mk _ (⟨(⟨a0_0, a0_1⟩ : S26), a0_2, a0_3, a0_4⟩ : S28) ); rintro e w10 ⟨rfl, hb⟩; refine ⟨_, rfl, ?_⟩; have n_ : _ ∧ _ ∧ _ := ⟨zk BK179 hb, zk BK180 hb, zbs hb⟩; clear BK179 BK180 HB; obtain ⟨BK179, BK180, HB⟩ := n_; (try clear hb); (try clear hb2); (try clear hk); (try clear hi)) | ((with_reducible refine gate_callee (f := 23) rfl ?_); refine goesL_ (some 10) rfl rfl Try.func23 (by kernel_rfl) rfl #[.int .i64 a1, .int .i64 (-100), .int .i64 100] rfl zm ?_; (with_reducible refine (spec_l00In.calls a1 (-100) 100 true _ A5.out).mono ?_); rintro e w' ⟨rfl, ⟨nd, rfl⟩⟩; refine ⟨_, rfl, ?_⟩; (try (rw [drewN_self w10]; generalize hq_ : World.drewN w10 _ = w10; have n0_ : Aside0 (w10.heap[gb179]? = some (.cells #[.int .i8 a0_0, .int .i8 a0_1, .int .i8 a0_2, .int .i8 a0_3, .int .i8 a0_4] 28 (0, 0))) := ⟨by rw [← hq_]; exact (zh BK179).out⟩; have n1_ : Aside0 (w10.heap[gb180]? = some (.cells #[.int .i8 0, .int .i8 0, .int .i8 0, .int .i8 0, .int .i8 0] 28 (0, 0))) := ⟨by rw [← hq_]; exact (zh BK180).out⟩; have n2_ : Aside0 (Below w.heap.size w w10) := ⟨by rw [← hq_]; exact zbo⟩; clear BK179 BK180 HB hq_; have BK179 := n0_; have BK180 := n1_; have HB := n2_; clear n0_ n1_ n2_)); have hnb11 := NB179_180.out; have hnc11 := NB180_179.out; obtain ⟨z12_0, z12_1, z12_2, z12_3, z12_4, y12_0, y12_1, y12_2, y12_3, y12_4⟩ := zB5 BK179) | ((with_reducible refine gate_callee (f := 24) rfl ?_); refine goesL_ (some 16) rfl rfl Try.func24 (by kernel_rfl) rfl #[.int .i8 a0_3, .int .i64 a1] rfl zm ?_; (with_reducible refine (spec_l01Quarters.calls a0_3 a1 t183 _ A7.out).mono ?_); rintro e w' ⟨rfl, ⟨nd, rfl⟩⟩; refine ⟨_, rfl, ?_⟩; (try (rw [drewN_self w10]; generalize hq_ : World.drewN w10 _ = w10; have n0_ : Aside0 (w10.heap[gb179]? = some (.cells #[.int .i8 a0_0, .int .i8 a0_1, .int .i8 a0_2, .int .i8 a0_3, .int .i8 a0_4] 28 (0, 0))) := ⟨by rw [← hq_]; exact (zh BK179).out⟩; have n1_ : Aside0 (w10.heap[gb180]? = some (.cells #[.int .i8 0, .int .i8 0, .int .i8 0, .int .i8 0, .int .i8 0] 28 (0, 0))) := ⟨by rw [← hq_]; exact (zh BK180).out⟩; have n2_ : Aside0 (Below w.heap.size w w10) := ⟨by rw [← hq_]; exact zbo⟩; clear BK179 BK180 HB hq_; have BK179 := n0_; have BK180 := n1_; have HB := n2_; clear n0_ n1_ n2_)); obtain ⟨z13_0, z13_1, z13_2, z13_3, z13_4, y13_0, y13_1, y13_2, y13_3, y13_4⟩ := zB5 BK179; obtain ⟨z14_0, z14_1, z14_2, z14_3, z14_4, y14_0, y14_1, y14_2, y14_3, y14_4⟩ := zB5 BK180))
 refine bodyPost_ret (results_ct rfl _ _ gb180 28 #[.int .i8 a0_0, .int .i8 a0_1, .int .i8 a0_2, .int .i8 t183, .int .i8 a0_4] (0, 0) _ rfl (by (with_reducible repeat (first | refine blk_drewN ?_ _ | refine blk_drew ?_ | refine blk_alloc ?_ _)); refine blk_put (cs := #[.int .i8 a0_0, .int .i8 a0_1, .int .i8 a0_2, .int .i8 t183, .int .i8 0]) ?_ 4 _ rfl; (with_reducible repeat (first | refine blk_drewN ?_ _ | refine blk_drew ?_ | refine blk_alloc ?_ _)); refine blk_put (cs := #[.int .i8 a0_0, .int .i8 a0_1, .int .i8 a0_2, .int .i8 0, .int .i8 0]) ?_ 3 _ rfl; (with_reducible repeat (first | refine blk_drewN ?_ _ | refine blk_drew ?_ | refine blk_alloc ?_ _)); refine blk_put (cs := #[.int .i8 a0_0, .int .i8 a0_1, .int .i8 0, .int .i8 0, .int .i8 0]) ?_ 2 _ rfl; (with_reducible repeat (first | refine blk_drewN ?_ _ | refine blk_drew ?_ | refine blk_alloc ?_ _)); refine blk_put (cs := #[.int .i8 a0_0, .int .i8 0, .int .i8 0, .int .i8 0, .int .i8 0]) ?_ 1 _ rfl; (with_reducible repeat (first | refine blk_drewN ?_ _ | refine blk_drew ?_ | refine blk_alloc ?_ _)); refine blk_put (cs := #[.int .i8 0, .int .i8 0, .int .i8 0, .int .i8 0, .int .i8 0]) ?_ 0 _ rfl; (with_reducible repeat (first | refine blk_drewN ?_ _ | refine blk_drew ?_ | refine blk_alloc ?_ _)); refine blk_far ?_ NB180_179.out _; (with_reducible repeat (first | refine blk_drewN ?_ _ | refine blk_drew ?_ | refine blk_alloc ?_ _)); exact BK180.out) Try.underlying28 rfl (by kernel_rfl)) rfl ?_
 exact ⟨zv, zbo⟩
def impl_isSide.f (a0 : Int) : Option (Bool) := (impl_in.f a0 0 3).bind fun t184 => (some t184)
theorem impl_isSide.calls (a0 : Int) (r : Bool) (w : World) (h : impl_isSide.f a0 = some r) :
    Calls Try.prog 32 #[.int .i64 a0] w fun e w' => e = .returned (.bool r) ∧ Drawn0 w w' := by
 have H : ((impl_in.f a0 0 3).bind fun t184 => (some t184)) = some r := h
 clear h
 replace H := zob H
 obtain ⟨t184, A20, H⟩ := H
 replace H : (some t184) = some r := H
 have A2 := Aside0.mk A20
 clear A20
 obtain rfl := Option.some.inj H
 go_enter Try.func32, Try.ntmps32
 go_wp2_with (first | ((with_reducible refine gate_callee (f := 25) rfl ?_); refine goesL_ (some 4) rfl rfl Try.func25 (by kernel_rfl) rfl #[.int .i64 a0, .int .i64 0, .int .i64 3] rfl zm ?_; (with_reducible refine (impl_in.calls a0 0 3 t184 _ A2.out).mono ?_); rintro e w' ⟨rfl, ⟨nd, rfl⟩⟩; refine ⟨_, rfl, ?_⟩))
 go_ret
 exact ⟨zi, zdr⟩
def impl_pieceOk.f (a0_0 : Int) (a0_1 : Int) (a0_2 : Int) (a0_3 : Int) (a0_4 : Int) (a1 : Int) : Option (Int) := (impl_ValidPiece.f a0_0 a0_1 a0_2 a0_3 a0_4).bind fun t186 => (if t186 = true then ((impl_isSide.f a1).bind fun t187 => (if t187 = true then (some 0) else (some 2))) else (some 1))
theorem impl_pieceOk.calls (a0_0 : Int) (a0_1 : Int) (a0_2 : Int) (a0_3 : Int) (a0_4 : Int) (a1 : Int) (r : Int) (w : World) (h : impl_pieceOk.f a0_0 a0_1 a0_2 a0_3 a0_4 a1 = some r) :
    Calls Try.prog 27 #[.agg #[.int .i8 a0_0, .int .i8 a0_1, .int .i8 a0_2, .int .i8 a0_3, .int .i8 a0_4], .int .i64 a1] w fun e w' => e = .returned (.int .i64 r) ∧ Below w.heap.size w w' := by
 have hu28 := Try.underlying28
 have HB := Aside0.mk (Below.refl w.heap.size w)
 have H : ((impl_ValidPiece.f a0_0 a0_1 a0_2 a0_3 a0_4).bind fun t186 => (if t186 = true then ((impl_isSide.f a1).bind fun t187 => (if t187 = true then (some 0) else (some 2))) else (some 1))) = some r := h
 clear h
 replace H := zob H
 obtain ⟨t186, A30, H⟩ := H
 replace H : (if t186 = true then ((impl_isSide.f a1).bind fun t187 => (if t187 = true then (some 0) else (some 2))) else (some 1)) = some r := H
 have A3 := Aside0.mk A30
 clear A30
 by_cases c4 : t186 = true
 rotate_left
 ·replace c4 := Bool.eq_false_iff.mpr c4
  subst c4
  have H1 : (some 1) = some r := by rw [if_neg (show ¬ (false = true) by decide)] at H; exact H
  clear H
  have H := H1
  clear H1
  obtain rfl := Option.some.inj H
  go_enter Try.func27, Try.ntmps27
  go_wp2_with (first | ((with_reducible refine gate_dst (N := 2) rfl ?_); refine zbx 2 #[.int .i8 a0_0, .int .i8 a0_1, .int .i8 a0_2, .int .i8 a0_3, .int .i8 a0_4] 28 ?_; intro gb185 hg w13 hbox hb; have n_ : _ ∧ _ ∧ _ ∧ _ := ⟨zb HB hb, Aside0.mk (hbox), zg HB hg, zg HB hg⟩; clear HB; obtain ⟨HB, BK185, GW185, GE185⟩ := n_; clear hb hbox hg; obtain ⟨z14_0, z14_1, z14_2, z14_3, z14_4, y14_0, y14_1, y14_2, y14_3, y14_4⟩ := zB5 BK185) | ((with_reducible refine gate_callee (f := 9) rfl ?_); refine goesL_ (some 7) rfl rfl Try.func9 (by kernel_rfl) rfl #[.agg #[.int .i8 a0_0, .int .i8 a0_1, .int .i8 a0_2, .int .i8 a0_3, .int .i8 a0_4]] rfl zm ?_; (with_reducible refine (impl_ValidPiece.calls a0_0 a0_1 a0_2 a0_3 a0_4 false _ A3.out).mono ?_); rintro e w15 ⟨rfl, hb⟩; refine ⟨_, rfl, ?_⟩; have n_ : _ ∧ _ := ⟨zk BK185 hb, zbs hb⟩; clear BK185 HB; obtain ⟨BK185, HB⟩ := n_; (try clear hb); (try clear hb2); (try clear hk); (try clear hi)))
  go_ret
  exact ⟨zv, zbo⟩
 subst c4
 have H1 : ((impl_isSide.f a1).bind fun t187 => (if t187 = true then (some 0) else (some 2))) = some r := by rw [if_pos rfl] at H; exact H
 clear H
 have H := H1
 clear H1
 replace H := zob H
 obtain ⟨t187, A50, H⟩ := H
 replace H : (if t187 = true then (some 0) else (some 2)) = some r := H
 have A5 := Aside0.mk A50
 clear A50
 by_cases c6 : t187 = true
 ·subst c6
  have H1 : (some 0) = some r := by rw [if_pos rfl] at H; exact H
  clear H
  have H := H1
  clear H1
  obtain rfl := Option.some.inj H
  go_enter Try.func27, Try.ntmps27
  go_wp2_with (first | ((with_reducible refine gate_dst (N := 2) rfl ?_); refine zbx 2 #[.int .i8 a0_0, .int .i8 a0_1, .int .i8 a0_2, .int .i8 a0_3, .int .i8 a0_4] 28 ?_; intro gb185 hg w7 hbox hb; have n_ : _ ∧ _ ∧ _ ∧ _ := ⟨zb HB hb, Aside0.mk (hbox), zg HB hg, zg HB hg⟩; clear HB; obtain ⟨HB, BK185, GW185, GE185⟩ := n_; clear hb hbox hg; obtain ⟨z8_0, z8_1, z8_2, z8_3, z8_4, y8_0, y8_1, y8_2, y8_3, y8_4⟩ := zB5 BK185) | ((with_reducible refine gate_callee (f := 9) rfl ?_); refine goesL_ (some 7) rfl rfl Try.func9 (by kernel_rfl) rfl #[.agg #[.int .i8 a0_0, .int .i8 a0_1, .int .i8 a0_2, .int .i8 a0_3, .int .i8 a0_4]] rfl zm ?_; (with_reducible refine (impl_ValidPiece.calls a0_0 a0_1 a0_2 a0_3 a0_4 true _ A3.out).mono ?_); rintro e w9 ⟨rfl, hb⟩; refine ⟨_, rfl, ?_⟩; have n_ : _ ∧ _ := ⟨zk BK185 hb, zbs hb⟩; clear BK185 HB; obtain ⟨BK185, HB⟩ := n_; (try clear hb); (try clear hb2); (try clear hk); (try clear hi)) | ((with_reducible refine gate_callee (f := 32) rfl ?_); refine goesL_ (some 11) rfl rfl Try.func32 (by kernel_rfl) rfl #[.int .i64 a1] rfl zm ?_; (with_reducible refine (impl_isSide.calls a1 true _ A5.out).mono ?_); rintro e w' ⟨rfl, ⟨nd, rfl⟩⟩; refine ⟨_, rfl, ?_⟩))
  go_ret
  exact ⟨zv, zbo⟩
 replace c6 := Bool.eq_false_iff.mpr c6
 subst c6
 have H1 : (some 2) = some r := by rw [if_neg (show ¬ (false = true) by decide)] at H; exact H
 clear H
 have H := H1
 clear H1
 obtain rfl := Option.some.inj H
 go_enter Try.func27, Try.ntmps27
 go_wp2_with (first | ((with_reducible refine gate_dst (N := 2) rfl ?_); refine zbx 2 #[.int .i8 a0_0, .int .i8 a0_1, .int .i8 a0_2, .int .i8 a0_3, .int .i8 a0_4] 28 ?_; intro gb185 hg w10 hbox hb; have n_ : _ ∧ _ ∧ _ ∧ _ := ⟨zb HB hb, Aside0.mk (hbox), zg HB hg, zg HB hg⟩; clear HB; obtain ⟨HB, BK185, GW185, GE185⟩ := n_; clear hb hbox hg; obtain ⟨z11_0, z11_1, z11_2, z11_3, z11_4, y11_0, y11_1, y11_2, y11_3, y11_4⟩ := zB5 BK185) | ((with_reducible refine gate_callee (f := 9) rfl ?_); refine goesL_ (some 7) rfl rfl Try.func9 (by kernel_rfl) rfl #[.agg #[.int .i8 a0_0, .int .i8 a0_1, .int .i8 a0_2, .int .i8 a0_3, .int .i8 a0_4]] rfl zm ?_; (with_reducible refine (impl_ValidPiece.calls a0_0 a0_1 a0_2 a0_3 a0_4 true _ A3.out).mono ?_); rintro e w12 ⟨rfl, hb⟩; refine ⟨_, rfl, ?_⟩; have n_ : _ ∧ _ := ⟨zk BK185 hb, zbs hb⟩; clear BK185 HB; obtain ⟨BK185, HB⟩ := n_; (try clear hb); (try clear hb2); (try clear hk); (try clear hi)) | ((with_reducible refine gate_callee (f := 32) rfl ?_); refine goesL_ (some 11) rfl rfl Try.func32 (by kernel_rfl) rfl #[.int .i64 a1] rfl zm ?_; (with_reducible refine (impl_isSide.calls a1 false _ A5.out).mono ?_); rintro e w' ⟨rfl, ⟨nd, rfl⟩⟩; refine ⟨_, rfl, ?_⟩))
 go_ret
 exact ⟨zv, zbo⟩
end Go.Proofs.Ytjeejglobdgpjaa.PFnPieces
