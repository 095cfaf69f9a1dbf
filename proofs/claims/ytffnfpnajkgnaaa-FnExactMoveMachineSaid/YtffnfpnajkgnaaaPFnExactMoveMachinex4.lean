-- WRITTEN by xprint.py, a program of this session's. Not trusted: Lean checks it.
-- packed by pack.py
import Derived.Test.YtffnfpnajkgnaaaPFnExactMoveMachinex0
import Derived.Test.YtffnfpnajkgnaaaPFnExactMoveMachinex3
import Derived.Test.YtffnfpnajkgnaaaTFnExactMoveMachinea
namespace Go.Proofs.Ytffnfpnajkgnaaa.PFnExactMoveMachine
open Go.RowKit Go.Proofs.YtffnfpnajkgnaaaW.PrintWords Go.Proofs.YtffnfpnajkgnaaaW.PrintLast Go.Proofs.YtffnfpnajkgnaaaW.PrintMore Go.Proofs.YtffnfpnajkgnaaaX
attribute [local go_sem] max2_int min2_int max_two min_two max_three min_three max_four min_four   -- for this text's walks alone
set_option maxHeartbeats 8000000
set_option maxRecDepth 100000
set_option linter.unusedVariables false
set_option linter.unusedSimpArgs false

def laws_toMachine.f (k : Nat) (a0_0 : Int) (a0_1 : Int) (l0_2 : List (S88)) (l0_3 : List (S182)) (l0_4 : List (S71)) : Option (Int × Int × (List (S91)) × (List (S116)) × (List (S74))) := (laws_toBoard.f k a0_0 a0_1 l0_2).bind fun bt154 => ((laws_toPortS.f k l0_3).bind fun t159 => ((laws_toCellS.f k l0_4).bind fun t162 => (some (bt154.1, bt154.2.1, bt154.2.2, t159, t162))))
theorem laws_toMachine.mono : ∀ a0 a1 a2 a3 a4 k, LeO (laws_toMachine.f k a0 a1 a2 a3 a4) (laws_toMachine.f (k + 1) a0 a1 a2 a3 a4) := by
 intro a0 a1 a2 a3 a4 k
 unfold laws_toMachine.f
 repeat' first | (with_reducible first | apply laws_toBoard.mono | apply laws_toCellS.mono | apply laws_toPortS.mono | exact LeO.refl _ | exact LeO.none _ | refine LeO.ite ?_ ?_ | refine LeO.bind ?_ (fun _ => ?_)) | apply laws_toBoard.mono | apply laws_toCellS.mono | apply laws_toPortS.mono | exact LeO.none _ | refine LeO.ite ?_ ?_ | refine LeO.bind ?_ (fun _ => ?_)
theorem laws_toMachine.calls (k : Nat) (a0_0 : Int) (a0_1 : Int) (A0_2 : Option Addr) (c0_2 : Nat) (l0_2 : List (S88)) (A0_3 : Option Addr) (c0_3 : Nat) (l0_3 : List (S182)) (A0_4 : Option Addr) (c0_4 : Nat) (l0_4 : List (S71)) (r1 : Int) (r2 : Int) (r3 : List (S91)) (r4 : List (S116)) (r5 : List (S74)) (w : World) (hr0_2 : Kd.C k88 w A0_2 l0_2.length l0_2) (hc0_2 : l0_2.length ≤ c0_2) (hr0_3 : Kd.C k182 w A0_3 l0_3.length l0_3) (hc0_3 : l0_3.length ≤ c0_3) (hr0_4 : Kd.C k71 w A0_4 l0_4.length l0_4) (hc0_4 : l0_4.length ≤ c0_4) (h : laws_toMachine.f k a0_0 a0_1 l0_2 l0_3 l0_4 = some (r1, r2, r3, r4, r5)) :
    Calls Try.prog 23 #[.agg #[.int .i8 a0_0, .int .i8 a0_1, .slice A0_2 l0_2.length c0_2, .slice A0_3 l0_3.length c0_3, .slice A0_4 l0_4.length c0_4]] w fun e w' => ∃ v2_ v3_ v4_ : Value, e = .returned (.agg #[.int .i8 r1, .int .i8 r2, v2_, v3_, v4_]) ∧ Kd.R k91 91 w' w.heap.size (fun _ => True) v2_ r3 ∧ Kd.R k116 116 w' w.heap.size (fun _ => True) v3_ r4 ∧ Kd.R k74 74 w' w.heap.size (fun _ => True) v4_ r5 ∧ Below w.heap.size w w' := by
 have hu29 := Try.underlying29
 have hu41 := Try.underlying41
 have hu25 := Try.underlying25
 have hu37 := Try.underlying37
 have HR0_2 := Aside0.mk hr0_2
 have HC0_2 := Aside0.mk hc0_2
 clear hr0_2 hc0_2
 have HR0_3 := Aside0.mk hr0_3
 have HC0_3 := Aside0.mk hc0_3
 clear hr0_3 hc0_3
 have HR0_4 := Aside0.mk hr0_4
 have HC0_4 := Aside0.mk hc0_4
 clear hr0_4 hc0_4
 have HB := Aside0.mk (Below.refl w.heap.size w)
 have H : ((laws_toBoard.f k a0_0 a0_1 l0_2).bind fun bt154 => ((laws_toPortS.f k l0_3).bind fun t159 => ((laws_toCellS.f k l0_4).bind fun t162 => (some (bt154.1, bt154.2.1, bt154.2.2, t159, t162))))) = some (r1, r2, r3, r4, r5) := h
 clear h
 replace H := zob H
 obtain ⟨⟨t154, t155, t156⟩, A20, H⟩ := H
 replace H : ((laws_toPortS.f k l0_3).bind fun t159 => ((laws_toCellS.f k l0_4).bind fun t162 => (some (t154, t155, t156, t159, t162)))) = some (r1, r2, r3, r4, r5) := H
 have A2 := Aside0.mk A20
 clear A20
 replace H := zob H
 obtain ⟨t159, A30, H⟩ := H
 replace H : ((laws_toCellS.f k l0_4).bind fun t162 => (some (t154, t155, t156, t159, t162))) = some (r1, r2, r3, r4, r5) := H
 have A3 := Aside0.mk A30
 clear A30
 replace H := zob H
 obtain ⟨t162, A40, H⟩ := H
 replace H : (some (t154, t155, t156, t159, t162)) = some (r1, r2, r3, r4, r5) := H
 have A4 := Aside0.mk A40
 clear A40
 simp only [Option.some.injEq, Prod.mk.injEq] at H
 obtain ⟨rfl, rfl, rfl, rfl, rfl⟩ := H
 go_enter Try.func23, Try.ntmps23
 go_wp2_with (first | ((with_reducible refine gate_dst (N := 1) rfl ?_); refine zbx 1 #[.int .i8 a0_0, .int .i8 a0_1, .slice A0_2 l0_2.length c0_2, .slice A0_3 l0_3.length c0_3, .slice A0_4 l0_4.length c0_4] 29 ?_; intro gb151 hg w5 hbox hb; have n_ : _ ∧ _ ∧ _ ∧ _ := ⟨zb HB hb, Aside0.mk (hbox), zg HB hg, zg HB hg⟩; clear HB; obtain ⟨HB, BK151, GW151, GE151⟩ := n_; clear hb hbox hg) | ((with_reducible refine gate_dst (N := 2) rfl ?_); refine zbx 2 #[.int .i8 0, .int .i8 0, .slice none 0 0, .slice none 0 0, .slice none 0 0] 41 ?_; intro gb152 hg w6 hbox hb; have n_ : _ ∧ _ ∧ _ ∧ _ ∧ _ ∧ _ ∧ _ := ⟨zk BK151 hb, zbs hb, Aside0.mk (hbox), zg HB hg, zg HB hg, zn1 BK151 hg, zn2 BK151 hg⟩; clear BK151 HB; obtain ⟨BK151, HB, BK152, GW152, GE152, NB151_152, NB152_151⟩ := n_; clear hb hbox hg) | ((with_reducible refine gate_dst (N := 3) rfl ?_); refine zbx 3 #[.int .i8 0, .int .i8 0, .slice none 0 0, .slice none 0 0, .slice none 0 0] 41 ?_; intro gb153 hg w7 hbox hb; have n_ : _ ∧ _ ∧ _ ∧ _ ∧ _ ∧ _ ∧ _ ∧ _ ∧ _ ∧ _ := ⟨zk BK151 hb, zk BK152 hb, zbs hb, Aside0.mk (hbox), zg HB hg, zg HB hg, zn1 BK151 hg, zn2 BK151 hg, zn1 BK152 hg, zn2 BK152 hg⟩; clear BK151 BK152 HB; obtain ⟨BK151, BK152, HB, BK153, GW153, GE153, NB151_153, NB153_151, NB152_153, NB153_152⟩ := n_; clear hb hbox hg; have hnb8 := NB151_152.out; have hnc8 := NB152_151.out; have hnb9 := NB151_153.out; have hnc9 := NB153_151.out; obtain ⟨z10_0, z10_1, z10_2, z10_3, z10_4, y10_0, y10_1, y10_2, y10_3, y10_4⟩ := zB5 BK151) | ((with_reducible refine gate_callee (f := 42) rfl ?_); refine goesL_ (some 6) rfl rfl Try.func42 (by kernel_rfl) rfl #[.agg #[.int .i8 a0_0, .int .i8 a0_1, .slice A0_2 l0_2.length c0_2]] rfl zm ?_; (with_reducible refine (laws_toBoard.calls k a0_0 a0_1 _ _ l0_2 t154 t155 t156 _ ?side1 ?side2 A2.out).mono ?_); (case side1 => exact zcc HB HR0_2.out); (case side2 => exact HC0_2.out); rintro e w11 ⟨v157, rfl, ho0, hb⟩; refine ⟨_, rfl, ?_⟩; have n_ : _ ∧ _ ∧ _ ∧ _ ∧ _ := ⟨Aside0.mk (Kd.R_lower ho0 (zz HB)), zk BK151 hb, zk BK152 hb, zk BK153 hb, zbs hb⟩; clear BK151 BK152 BK153 HB; obtain ⟨HO158, BK151, BK152, BK153, HB⟩ := n_; (try clear hb); (try clear hb2); (try clear hk); (try clear hi); (try clear ho0); have hnb12 := NB153_152.out; have hnc12 := NB152_153.out; obtain ⟨z13_0, z13_1, z13_2, z13_3, z13_4, y13_0, y13_1, y13_2, y13_3, y13_4⟩ := zB5 BK153; obtain ⟨Ao14, co14, eo14⟩ := Kd.R_slice HO158.out; subst eo14; obtain ⟨z15_0, z15_1, z15_2, z15_3, z15_4, y15_0, y15_1, y15_2, y15_3, y15_4⟩ := zB5 BK151) | ((with_reducible refine gate_callee (f := 87) rfl ?_); refine goesL_ (some 10) rfl rfl Try.func87 (by kernel_rfl) rfl #[.slice A0_3 l0_3.length c0_3] rfl zm ?_; (with_reducible refine (laws_toPortS.calls k _ _ l0_3 t159 _ ?side1 ?side2 A3.out).mono ?_); (case side1 => exact Kd.C_below HR0_3.out zbo); (case side2 => exact HC0_3.out); rintro e w16 ⟨v160, rfl, ho0, hb⟩; refine ⟨_, rfl, ?_⟩; have n_ : _ ∧ _ ∧ _ ∧ _ ∧ _ ∧ _ := ⟨zsb HO158 BK153 hb, Aside0.mk (Kd.R_lower ho0 (zz HB)), zfb BK151 NB151_153 hb, zfb BK152 NB152_153 hb, Aside0.mk (blk_below (g := gb153) (o := .cells #[.int .i8 t154, .int .i8 t155, .slice Ao14 t156.length co14, .slice none 0 0, .slice none 0 0] 41 (0, 0)) (zp BK153) hb), zbs hb⟩; clear HO158 BK151 BK152 BK153 HB; obtain ⟨HO158, HO161, BK151, BK152, BK153, HB⟩ := n_; (try clear hb); (try clear hb2); (try clear hk); (try clear hi); (try clear ho0); obtain ⟨Ao17, co17, eo17⟩ := Kd.R_slice HO161.out; subst eo17; obtain ⟨z18_0, z18_1, z18_2, z18_3, z18_4, y18_0, y18_1, y18_2, y18_3, y18_4⟩ := zB5 BK153; obtain ⟨z19_0, z19_1, z19_2, z19_3, z19_4, y19_0, y19_1, y19_2, y19_3, y19_4⟩ := zB5 BK151) | ((with_reducible refine gate_callee (f := 88) rfl ?_); refine goesL_ (some 14) rfl rfl Try.func88 (by kernel_rfl) rfl #[.slice A0_4 l0_4.length c0_4] rfl zm ?_; (with_reducible refine (laws_toCellS.calls k _ _ l0_4 t162 _ ?side1 ?side2 A4.out).mono ?_); (case side1 => exact Kd.C_below HR0_4.out zbo); (case side2 => exact HC0_4.out); rintro e w20 ⟨v163, rfl, ho0, hb⟩; refine ⟨_, rfl, ?_⟩; have n_ : _ ∧ _ ∧ _ ∧ _ ∧ _ ∧ _ ∧ _ := ⟨zsb HO158 BK153 hb, zsb HO161 BK153 hb, Aside0.mk (Kd.R_lower ho0 (zz HB)), zfb BK151 NB151_153 hb, zfb BK152 NB152_153 hb, Aside0.mk (blk_below (g := gb153) (o := .cells #[.int .i8 t154, .int .i8 t155, .slice Ao14 t156.length co14, .slice Ao17 t159.length co17, .slice none 0 0] 41 (0, 0)) (zp BK153) hb), zbs hb⟩; clear HO158 HO161 BK151 BK152 BK153 HB; obtain ⟨HO158, HO161, HO164, BK151, BK152, BK153, HB⟩ := n_; (try clear hb); (try clear hb2); (try clear hk); (try clear hi); (try clear ho0); obtain ⟨Ao21, co21, eo21⟩ := Kd.R_slice HO164.out; subst eo21; obtain ⟨z22_0, z22_1, z22_2, z22_3, z22_4, y22_0, y22_1, y22_2, y22_3, y22_4⟩ := zB5 BK153; obtain ⟨z23_0, z23_1, z23_2, z23_3, z23_4, y23_0, y23_1, y23_2, y23_3, y23_4⟩ := zB5 BK152))
 refine bodyPost_ret (results_cell_row rfl _ _ gb152 41 #[.int .i8 t154, .int .i8 t155, .slice Ao14 t156.length co14, .slice Ao17 t159.length co17, .slice Ao21 t162.length co21] (0, 0) _ rfl (by (with_reducible repeat (first | refine blk_drewN ?_ _ | refine blk_drew ?_ | refine blk_alloc ?_ _)); refine blk_put (cs := #[.int .i8 t154, .int .i8 t155, .slice Ao14 t156.length co14, .slice Ao17 t159.length co17, .slice none 0 0]) ?_ 4 _ rfl; (with_reducible repeat (first | refine blk_drewN ?_ _ | refine blk_drew ?_ | refine blk_alloc ?_ _)); refine blk_put (cs := #[.int .i8 t154, .int .i8 t155, .slice Ao14 t156.length co14, .slice none 0 0, .slice none 0 0]) ?_ 3 _ rfl; (with_reducible repeat (first | refine blk_drewN ?_ _ | refine blk_drew ?_ | refine blk_alloc ?_ _)); refine blk_put (cs := #[.int .i8 t154, .int .i8 t155, .slice none 0 0, .slice none 0 0, .slice none 0 0]) ?_ 2 _ rfl; (with_reducible repeat (first | refine blk_drewN ?_ _ | refine blk_drew ?_ | refine blk_alloc ?_ _)); refine blk_put (cs := #[.int .i8 t154, .int .i8 0, .slice none 0 0, .slice none 0 0, .slice none 0 0]) ?_ 1 _ rfl; (with_reducible repeat (first | refine blk_drewN ?_ _ | refine blk_drew ?_ | refine blk_alloc ?_ _)); refine blk_put (cs := #[.int .i8 0, .int .i8 0, .slice none 0 0, .slice none 0 0, .slice none 0 0]) ?_ 0 _ rfl; (with_reducible repeat (first | refine blk_drewN ?_ _ | refine blk_drew ?_ | refine blk_alloc ?_ _)); refine blk_far ?_ NB152_153.out _; (with_reducible repeat (first | refine blk_drewN ?_ _ | refine blk_drew ?_ | refine blk_alloc ?_ _)); exact BK152.out) Try.underlying41 rfl (by kernel_rfl)) rfl ?_
 exact ⟨_, _, _, zv, by (with_reducible repeat (first | apply Kd.R_alloc | apply Kd.R_drewN | apply Kd.R_drew)); exact Kd.R_mono (Kd.R_far (p := ⟨gb152, 4, none⟩) (Kd.R_far (p := ⟨gb152, 3, none⟩) (Kd.R_far (p := ⟨gb152, 2, none⟩) (Kd.R_far (p := ⟨gb152, 1, none⟩) (Kd.R_far (p := ⟨gb152, 0, none⟩) (Kd.R_far (p := ⟨gb153, 4, none⟩) (Kd.R_types (Kd.R_types HO158.out BK153.out (by decide)) BK152.out (by decide)) (fun _ hk => hk.1.2) (.slice Ao21 t162.length co21)) (fun _ hk => hk.2) (.int .i8 t154)) (fun _ hk => hk.2) (.int .i8 t155)) (fun _ hk => hk.2) (.slice Ao14 t156.length co14)) (fun _ hk => hk.2) (.slice Ao17 t159.length co17)) (fun _ hk => hk.2) (.slice Ao21 t162.length co21)) (fun _ hk => trivial), by (with_reducible repeat (first | apply Kd.R_alloc | apply Kd.R_drewN | apply Kd.R_drew)); exact Kd.R_mono (Kd.R_far (p := ⟨gb152, 4, none⟩) (Kd.R_far (p := ⟨gb152, 3, none⟩) (Kd.R_far (p := ⟨gb152, 2, none⟩) (Kd.R_far (p := ⟨gb152, 1, none⟩) (Kd.R_far (p := ⟨gb152, 0, none⟩) (Kd.R_far (p := ⟨gb153, 4, none⟩) (Kd.R_types (Kd.R_types HO161.out BK153.out (by decide)) BK152.out (by decide)) (fun _ hk => hk.1.2) (.slice Ao21 t162.length co21)) (fun _ hk => hk.2) (.int .i8 t154)) (fun _ hk => hk.2) (.int .i8 t155)) (fun _ hk => hk.2) (.slice Ao14 t156.length co14)) (fun _ hk => hk.2) (.slice Ao17 t159.length co17)) (fun _ hk => hk.2) (.slice Ao21 t162.length co21)) (fun _ hk => trivial), by (with_reducible repeat (first | apply Kd.R_alloc | apply Kd.R_drewN | apply Kd.R_drew)); exact Kd.R_mono (Kd.R_far (p := ⟨gb152, 4, none⟩) (Kd.R_far (p := ⟨gb152, 3, none⟩) (Kd.R_far (p := ⟨gb152, 2, none⟩) (Kd.R_far (p := ⟨gb152, 1, none⟩) (Kd.R_far (p := ⟨gb152, 0, none⟩) (Kd.R_far (p := ⟨gb153, 4, none⟩) (Kd.R_types (Kd.R_types HO164.out BK153.out (by decide)) BK152.out (by decide)) (fun _ hk => hk.1.2) (.slice Ao21 t162.length co21)) (fun _ hk => hk.2) (.int .i8 t154)) (fun _ hk => hk.2) (.int .i8 t155)) (fun _ hk => hk.2) (.slice Ao14 t156.length co14)) (fun _ hk => hk.2) (.slice Ao17 t159.length co17)) (fun _ hk => hk.2) (.slice Ao21 t162.length co21)) (fun _ hk => trivial), zbo⟩
def laws_eqCell.l0 : Nat → Int → Int → Int → Int → Int → Option (Bool)
  | 0, _, _, _, _, _ => none
  | k + 1, x5, x166000, x166001, x167000, x167001 => if x5 < 2 then (if x5 = 0 then (if x166000 = x167000 then (laws_eqCell.l0 k (wrap64 (x5 + 1)) x166000 x166001 x167000 x167001) else (some false)) else (if x5 = 1 then (if x166001 = x167001 then (laws_eqCell.l0 k (wrap64 (x5 + 1)) x166000 x166001 x167000 x167001) else (some false)) else (none))) else (some true)
def laws_eqCell.f (k : Nat) (a0_0 : Int) (a0_1 : Int) (a1_0 : Int) (a1_1 : Int) : Option (Bool) := laws_eqCell.l0 k 0 a0_0 a0_1 a1_0 a1_1
theorem laws_eqCell.mono_l : ∀ k, (∀ y0 y1 y2 y3 y4, LeO (laws_eqCell.l0 k y0 y1 y2 y3 y4) (laws_eqCell.l0 (k + 1) y0 y1 y2 y3 y4))
  | 0 => fun _ _ _ _ _ r h => by simp [laws_eqCell.l0] at h
  | k + 1 => by
    have ih0 := laws_eqCell.mono_l k
    · intro y0 y1 y2 y3 y4
      unfold laws_eqCell.l0
      repeat' first | (with_reducible first | apply ih0 | exact LeO.refl _ | exact LeO.none _ | refine LeO.ite ?_ ?_ | refine LeO.bind ?_ (fun _ => ?_)) | apply ih0 | exact LeO.none _ | refine LeO.ite ?_ ?_ | refine LeO.bind ?_ (fun _ => ?_)
theorem laws_eqCell.mono : ∀ a0 a1 a2 a3 k, LeO (laws_eqCell.f k a0 a1 a2 a3) (laws_eqCell.f (k + 1) a0 a1 a2 a3) := by
 intro a0 a1 a2 a3 k
 have ih0 := laws_eqCell.mono_l k
 unfold laws_eqCell.f
 repeat' first | (with_reducible first | apply ih0 | exact LeO.refl _ | exact LeO.none _ | refine LeO.ite ?_ ?_ | refine LeO.bind ?_ (fun _ => ?_)) | apply ih0 | exact LeO.none _ | refine LeO.ite ?_ ?_ | refine LeO.bind ?_ (fun _ => ?_)
theorem laws_eqCell.calls (k : Nat) (a0_0 : Int) (a0_1 : Int) (a1_0 : Int) (a1_1 : Int) (r : Bool) (w : World) (h : laws_eqCell.f k a0_0 a0_1 a1_0 a1_1 = some r) :
    Calls Try.prog 159 #[.agg #[.int .i8 a0_0, .int .i8 a0_1], .agg #[.int .i8 a1_0, .int .i8 a1_1]] w fun e w' => e = .returned (.bool r) ∧ Below w.heap.size w w' := by
 have hu74 := Try.underlying74
 have HB := Aside0.mk (Below.refl w.heap.size w)
 have H : (laws_eqCell.l0 k 0 a0_0 a0_1 a1_0 a1_1) = some r := h
 clear h
 have H' := Aside0.mk H
 clear H
 go_enter Try.func159, Try.ntmps159
 go_wp2_with (first | ((with_reducible refine gate_dst (N := 2) rfl ?_); refine zbx 2 #[.int .i8 a0_0, .int .i8 a0_1] 74 ?_; intro gb165 hg w3 hbox hb; have n_ : _ ∧ _ ∧ _ ∧ _ := ⟨zb HB hb, Aside0.mk (hbox), zg HB hg, zg HB hg⟩; clear HB; obtain ⟨HB, BK165, GW165, GE165⟩ := n_; clear hb hbox hg) | ((with_reducible refine gate_dst (N := 3) rfl ?_); refine zbx 3 #[.int .i8 a1_0, .int .i8 a1_1] 74 ?_; intro gb166 hg w4 hbox hb; have n_ : _ ∧ _ ∧ _ ∧ _ ∧ _ ∧ _ ∧ _ := ⟨zk BK165 hb, zbs hb, Aside0.mk (hbox), zg HB hg, zg HB hg, zn1 BK165 hg, zn2 BK165 hg⟩; clear BK165 HB; obtain ⟨BK165, HB, BK166, GW166, GE166, NB165_166, NB166_165⟩ := n_; clear hb hbox hg) | go_quiet (fail))
 go_loopg [5] k (fun kq v5 w' => ∃ (x5_1 : Int), v5 = .int .i64 x5_1 ∧ Aside0 (laws_eqCell.l0 kq x5_1 a0_0 a0_1 a1_0 a1_1 = some r) ∧ Aside0 (kq ≤ k) ∧ Aside0 (w'.heap[gb165]? = some (.cells #[.int .i8 a0_0, .int .i8 a0_1] 74 (0, 0))) ∧ Aside0 (w'.heap[gb166]? = some (.cells #[.int .i8 a1_0, .int .i8 a1_1] 74 (0, 0))) ∧ Aside0 (Below w.heap.size w w'))
 case atStart => exact ⟨(0), zi, H', ⟨Nat.le_refl _⟩, zh BK165, zh BK166, zba⟩
 clear H'
 try clear c1
 try clear p2
 obtain ⟨x5_1, rfl, HA, HK1, BK165, BK166, HB⟩ := hrel
 cases gk with
 | zero => exact absurd HA.out (by simp [laws_eqCell.l0])
 | succ k1 => ?_
 have H := HA.out
 clear HA
 simp only [laws_eqCell.l0] at H
 by_cases c5 : x5_1 < 2
 rotate_left
 ·rw [if_neg c5] at H
  have c5b0 : decide (x5_1 < 2) = false := decide_eq_false c5
  clear c5
  obtain rfl := Option.some.inj H
  go_wp2
  repeat (go_quiet (fail); try go_wp2)
  go_ret
  exact ⟨zv, zbo⟩
 rw [if_pos c5] at H
 have c5b0 : decide (x5_1 < 2) = true := decide_eq_true c5
 clear c5
 by_cases c6 : x5_1 = 0
 ·rw [if_pos c6] at H
  have Ac6 : Aside0 (x5_1 = 0) := ⟨c6⟩
  clear c6
  have ar7e : x5_1 = 0 := by first | exact (show Aside0 (x5_1 = 0) by assumption).out | exact beq_iff_eq.mp (by assumption) | omega
  have ar7n : (x5_1).toNat = 0 := by rw [ar7e]; rfl
  have ar7l : decide (0 ≤ x5_1) = true := decide_eq_true (by omega)
  have ar7L := eq_true (of_decide_eq_true ar7l)
  have ar7h : decide (x5_1 < 2) = true := decide_eq_true (by omega)
  have ar7H := eq_true (of_decide_eq_true ar7h)
  clear ar7e
  have ar8e : x5_1 = 0 := by first | exact (show Aside0 (x5_1 = 0) by assumption).out | exact beq_iff_eq.mp (by assumption) | omega
  have ar8n : (x5_1).toNat = 0 := by rw [ar8e]; rfl
  have ar8l : decide (0 ≤ x5_1) = true := decide_eq_true (by omega)
  have ar8L := eq_true (of_decide_eq_true ar8l)
  have ar8h : decide (x5_1 < 2) = true := decide_eq_true (by omega)
  have ar8H := eq_true (of_decide_eq_true ar8h)
  clear ar8e
  by_cases c9 : a0_0 = a1_0
  ·rw [if_pos c9] at H
   have c9b0 : (a0_0 == a1_0) = true := beq_iff_eq.mpr c9
   have c9b1 : (a0_0 != a1_0) = false := bne_eq_false_iff_eq.mpr c9
   clear c9
   have H' := Aside0.mk H
   clear H
   have hnb10 := NB165_166.out
   have hnc10 := NB166_165.out
   obtain ⟨z11_0, z11_1, y11_0, y11_1⟩ := zB2 BK165
   obtain ⟨z12_0, z12_1, y12_0, y12_1⟩ := zB2 BK166
   go_wp2
   repeat (go_quiet (fail); try go_wp2)
   go_roundg k1
   case measure => have := HK1.out; omega
   case rel => exact ⟨(wrap64 (x5_1 + 1)), zi, H', ⟨by have := HK1.out; omega⟩, zh BK165, zh BK166, zba⟩
  rw [if_neg c9] at H
  have c9b0 : (a0_0 == a1_0) = false := beq_eq_false_iff_ne.mpr c9
  have c9b1 : (a0_0 != a1_0) = true := bne_iff_ne.mpr c9
  obtain rfl := Option.some.inj H
  have hnb13 := NB165_166.out
  have hnc13 := NB166_165.out
  obtain ⟨z14_0, z14_1, y14_0, y14_1⟩ := zB2 BK165
  obtain ⟨z15_0, z15_1, y15_0, y15_1⟩ := zB2 BK166
  go_wp2
  repeat (go_quiet (fail); try go_wp2)
  go_ret
  exact ⟨zv, zbo⟩
 rw [if_neg c6] at H
 clear c6
 by_cases c16 : x5_1 = 1
 rotate_left
 ·rw [if_neg c16] at H
  exact absurd H (by simp)
 rw [if_pos c16] at H
 have Ac16 : Aside0 (x5_1 = 1) := ⟨c16⟩
 clear c16
 have ar17e : x5_1 = 1 := by first | exact (show Aside0 (x5_1 = 1) by assumption).out | exact beq_iff_eq.mp (by assumption) | omega
 have ar17n : (x5_1).toNat = 1 := by rw [ar17e]; rfl
 have ar17l : decide (0 ≤ x5_1) = true := decide_eq_true (by omega)
 have ar17L := eq_true (of_decide_eq_true ar17l)
 have ar17h : decide (x5_1 < 2) = true := decide_eq_true (by omega)
 have ar17H := eq_true (of_decide_eq_true ar17h)
 clear ar17e
 have ar18e : x5_1 = 1 := by first | exact (show Aside0 (x5_1 = 1) by assumption).out | exact beq_iff_eq.mp (by assumption) | omega
 have ar18n : (x5_1).toNat = 1 := by rw [ar18e]; rfl
 have ar18l : decide (0 ≤ x5_1) = true := decide_eq_true (by omega)
 have ar18L := eq_true (of_decide_eq_true ar18l)
 have ar18h : decide (x5_1 < 2) = true := decide_eq_true (by omega)
 have ar18H := eq_true (of_decide_eq_true ar18h)
 clear ar18e
 by_cases c19 : a0_1 = a1_1
 ·rw [if_pos c19] at H
  have c19b0 : (a0_1 == a1_1) = true := beq_iff_eq.mpr c19
  have c19b1 : (a0_1 != a1_1) = false := bne_eq_false_iff_eq.mpr c19
  clear c19
  have H' := Aside0.mk H
  clear H
  have hnb20 := NB165_166.out
  have hnc20 := NB166_165.out
  obtain ⟨z21_0, z21_1, y21_0, y21_1⟩ := zB2 BK165
  obtain ⟨z22_0, z22_1, y22_0, y22_1⟩ := zB2 BK166
  go_wp2
  repeat (go_quiet (fail); try go_wp2)
  go_roundg k1
  case measure => have := HK1.out; omega
  case rel => exact ⟨(wrap64 (x5_1 + 1)), zi, H', ⟨by have := HK1.out; omega⟩, zh BK165, zh BK166, zba⟩
 rw [if_neg c19] at H
 have c19b0 : (a0_1 == a1_1) = false := beq_eq_false_iff_ne.mpr c19
 have c19b1 : (a0_1 != a1_1) = true := bne_iff_ne.mpr c19
 obtain rfl := Option.some.inj H
 have hnb23 := NB165_166.out
 have hnc23 := NB166_165.out
 obtain ⟨z24_0, z24_1, y24_0, y24_1⟩ := zB2 BK165
 obtain ⟨z25_0, z25_1, y25_0, y25_1⟩ := zB2 BK166
 go_wp2
 repeat (go_quiet (fail); try go_wp2)
 go_ret
 exact ⟨zv, zbo⟩
def laws_eqPiece.f (k : Nat) (a0_0 : Int) (a0_1 : Int) (a0_2 : Int) (a0_3 : Int) (a0_4 : Int) (a1_0 : Int) (a1_1 : Int) (a1_2 : Int) (a1_3 : Int) (a1_4 : Int) : Option (Bool) := (laws_eqCell.f k a0_0 a0_1 a1_0 a1_1).bind fun t169 => (if t169 = true then (if a0_2 = a1_2 then (if a0_3 = a1_3 then (if a0_4 = a1_4 then (some true) else (some false)) else (some false)) else (some false)) else (some false))
theorem laws_eqPiece.mono : ∀ a0 a1 a2 a3 a4 a5 a6 a7 a8 a9 k, LeO (laws_eqPiece.f k a0 a1 a2 a3 a4 a5 a6 a7 a8 a9) (laws_eqPiece.f (k + 1) a0 a1 a2 a3 a4 a5 a6 a7 a8 a9) := by
 intro a0 a1 a2 a3 a4 a5 a6 a7 a8 a9 k
 unfold laws_eqPiece.f
 repeat' first | (with_reducible first | apply laws_eqCell.mono | exact LeO.refl _ | exact LeO.none _ | refine LeO.ite ?_ ?_ | refine LeO.bind ?_ (fun _ => ?_)) | apply laws_eqCell.mono | exact LeO.none _ | refine LeO.ite ?_ ?_ | refine LeO.bind ?_ (fun _ => ?_)
theorem laws_eqPiece.calls (k : Nat) (a0_0 : Int) (a0_1 : Int) (a0_2 : Int) (a0_3 : Int) (a0_4 : Int) (a1_0 : Int) (a1_1 : Int) (a1_2 : Int) (a1_3 : Int) (a1_4 : Int) (r : Bool) (w : World) (h : laws_eqPiece.f k a0_0 a0_1 a0_2 a0_3 a0_4 a1_0 a1_1 a1_2 a1_3 a1_4 = some r) :
    Calls Try.prog 165 #[.agg #[.int .i8 a0_0, .int .i8 a0_1, .int .i8 a0_2, .int .i8 a0_3, .int .i8 a0_4], .agg #[.int .i8 a1_0, .int .i8 a1_1, .int .i8 a1_2, .int .i8 a1_3, .int .i8 a1_4]] w fun e w' => e = .returned (.bool r) ∧ Below w.heap.size w w' := by
 have hu91 := Try.underlying91
 have hu74 := Try.underlying74
 have HB := Aside0.mk (Below.refl w.heap.size w)
 have H : ((laws_eqCell.f k a0_0 a0_1 a1_0 a1_1).bind fun t169 => (if t169 = true then (if a0_2 = a1_2 then (if a0_3 = a1_3 then (if a0_4 = a1_4 then (some true) else (some false)) else (some false)) else (some false)) else (some false))) = some r := h
 clear h
 replace H := zob H
 obtain ⟨t169, A30, H⟩ := H
 replace H : (if t169 = true then (if a0_2 = a1_2 then (if a0_3 = a1_3 then (if a0_4 = a1_4 then (some true) else (some false)) else (some false)) else (some false)) else (some false)) = some r := H
 have A3 := Aside0.mk A30
 clear A30
 by_cases c4 : t169 = true
 rotate_left
 ·replace c4 := Bool.eq_false_iff.mpr c4
  subst c4
  have H1 : (some false) = some r := by rw [if_neg (show ¬ (false = true) by decide)] at H; exact H
  clear H
  have H := H1
  clear H1
  obtain rfl := Option.some.inj H
  go_enter Try.func165, Try.ntmps165
  go_wp2_with (first | ((with_reducible refine gate_dst (N := 2) rfl ?_); refine zbx 2 #[.int .i8 a0_0, .int .i8 a0_1, .int .i8 a0_2, .int .i8 a0_3, .int .i8 a0_4] 91 ?_; intro gb167 hg w40 hbox hb; have n_ : _ ∧ _ ∧ _ ∧ _ := ⟨zb HB hb, Aside0.mk (hbox), zg HB hg, zg HB hg⟩; clear HB; obtain ⟨HB, BK167, GW167, GE167⟩ := n_; clear hb hbox hg) | ((with_reducible refine gate_dst (N := 3) rfl ?_); refine zbx 3 #[.int .i8 a1_0, .int .i8 a1_1, .int .i8 a1_2, .int .i8 a1_3, .int .i8 a1_4] 91 ?_; intro gb168 hg w41 hbox hb; have n_ : _ ∧ _ ∧ _ ∧ _ ∧ _ ∧ _ ∧ _ := ⟨zk BK167 hb, zbs hb, Aside0.mk (hbox), zg HB hg, zg HB hg, zn1 BK167 hg, zn2 BK167 hg⟩; clear BK167 HB; obtain ⟨BK167, HB, BK168, GW168, GE168, NB167_168, NB168_167⟩ := n_; clear hb hbox hg; have hnb42 := NB167_168.out; have hnc42 := NB168_167.out; obtain ⟨z43_0, z43_1, z43_2, z43_3, z43_4, y43_0, y43_1, y43_2, y43_3, y43_4⟩ := zB5 BK167; obtain ⟨z44_0, z44_1, z44_2, z44_3, z44_4, y44_0, y44_1, y44_2, y44_3, y44_4⟩ := zB5 BK168) | ((with_reducible refine gate_callee (f := 159) rfl ?_); refine goesL_ (some 9) rfl rfl Try.func159 (by kernel_rfl) rfl #[.agg #[.int .i8 a0_0, .int .i8 a0_1], .agg #[.int .i8 a1_0, .int .i8 a1_1]] rfl zm ?_; (with_reducible refine (laws_eqCell.calls k a0_0 a0_1 a1_0 a1_1 false _ A3.out).mono ?_); rintro e w45 ⟨rfl, hb⟩; refine ⟨_, rfl, ?_⟩; have n_ : _ ∧ _ ∧ _ := ⟨zk BK167 hb, zk BK168 hb, zbs hb⟩; clear BK167 BK168 HB; obtain ⟨BK167, BK168, HB⟩ := n_; (try clear hb); (try clear hb2); (try clear hk); (try clear hi)))
  go_ret
  exact ⟨zv, zbo⟩
 subst c4
 have H1 : (if a0_2 = a1_2 then (if a0_3 = a1_3 then (if a0_4 = a1_4 then (some true) else (some false)) else (some false)) else (some false)) = some r := by rw [if_pos rfl] at H; exact H
 clear H
 have H := H1
 clear H1
 by_cases c5 : a0_2 = a1_2
 rotate_left
 ·rw [if_neg c5] at H
  have c5b0 : (a0_2 == a1_2) = false := beq_eq_false_iff_ne.mpr c5
  have c5b1 : (a0_2 != a1_2) = true := bne_iff_ne.mpr c5
  obtain rfl := Option.some.inj H
  go_enter Try.func165, Try.ntmps165
  go_wp2_with (first | ((with_reducible refine gate_dst (N := 2) rfl ?_); refine zbx 2 #[.int .i8 a0_0, .int .i8 a0_1, .int .i8 a0_2, .int .i8 a0_3, .int .i8 a0_4] 91 ?_; intro gb167 hg w32 hbox hb; have n_ : _ ∧ _ ∧ _ ∧ _ := ⟨zb HB hb, Aside0.mk (hbox), zg HB hg, zg HB hg⟩; clear HB; obtain ⟨HB, BK167, GW167, GE167⟩ := n_; clear hb hbox hg) | ((with_reducible refine gate_dst (N := 3) rfl ?_); refine zbx 3 #[.int .i8 a1_0, .int .i8 a1_1, .int .i8 a1_2, .int .i8 a1_3, .int .i8 a1_4] 91 ?_; intro gb168 hg w33 hbox hb; have n_ : _ ∧ _ ∧ _ ∧ _ ∧ _ ∧ _ ∧ _ := ⟨zk BK167 hb, zbs hb, Aside0.mk (hbox), zg HB hg, zg HB hg, zn1 BK167 hg, zn2 BK167 hg⟩; clear BK167 HB; obtain ⟨BK167, HB, BK168, GW168, GE168, NB167_168, NB168_167⟩ := n_; clear hb hbox hg; have hnb34 := NB167_168.out; have hnc34 := NB168_167.out; obtain ⟨z35_0, z35_1, z35_2, z35_3, z35_4, y35_0, y35_1, y35_2, y35_3, y35_4⟩ := zB5 BK167; obtain ⟨z36_0, z36_1, z36_2, z36_3, z36_4, y36_0, y36_1, y36_2, y36_3, y36_4⟩ := zB5 BK168) | ((with_reducible refine gate_callee (f := 159) rfl ?_); refine goesL_ (some 9) rfl rfl Try.func159 (by kernel_rfl) rfl #[.agg #[.int .i8 a0_0, .int .i8 a0_1], .agg #[.int .i8 a1_0, .int .i8 a1_1]] rfl zm ?_; (with_reducible refine (laws_eqCell.calls k a0_0 a0_1 a1_0 a1_1 true _ A3.out).mono ?_); rintro e w37 ⟨rfl, hb⟩; refine ⟨_, rfl, ?_⟩; have n_ : _ ∧ _ ∧ _ := ⟨zk BK167 hb, zk BK168 hb, zbs hb⟩; clear BK167 BK168 HB; obtain ⟨BK167, BK168, HB⟩ := n_; (try clear hb); (try clear hb2); (try clear hk); (try clear hi); obtain ⟨z38_0, z38_1, z38_2, z38_3, z38_4, y38_0, y38_1, y38_2, y38_3, y38_4⟩ := zB5 BK167; obtain ⟨z39_0, z39_1, z39_2, z39_3, z39_4, y39_0, y39_1, y39_2, y39_3, y39_4⟩ := zB5 BK168))
  go_ret
  exact ⟨zv, zbo⟩
 rw [if_pos c5] at H
 have c5b0 : (a0_2 == a1_2) = true := beq_iff_eq.mpr c5
 have c5b1 : (a0_2 != a1_2) = false := bne_eq_false_iff_eq.mpr c5
 clear c5
 by_cases c6 : a0_3 = a1_3
 rotate_left
 ·rw [if_neg c6] at H
  have c6b0 : (a0_3 == a1_3) = false := beq_eq_false_iff_ne.mpr c6
  have c6b1 : (a0_3 != a1_3) = true := bne_iff_ne.mpr c6
  obtain rfl := Option.some.inj H
  go_enter Try.func165, Try.ntmps165
  go_wp2_with (first | ((with_reducible refine gate_dst (N := 2) rfl ?_); refine zbx 2 #[.int .i8 a0_0, .int .i8 a0_1, .int .i8 a0_2, .int .i8 a0_3, .int .i8 a0_4] 91 ?_; intro gb167 hg w24 hbox hb; have n_ : _ ∧ _ ∧ _ ∧ _ := ⟨zb HB hb, Aside0.mk (hbox), zg HB hg, zg HB hg⟩; clear HB; obtain ⟨HB, BK167, GW167, GE167⟩ := n_; clear hb hbox hg) | ((with_reducible refine gate_dst (N := 3) rfl ?_); refine zbx 3 #[.int .i8 a1_0, .int .i8 a1_1, .int .i8 a1_2, .int .i8 a1_3, .int .i8 a1_4] 91 ?_; intro gb168 hg w25 hbox hb; have n_ : _ ∧ _ ∧ _ ∧ _ ∧ _ ∧ _ ∧ _ := ⟨zk BK167 hb, zbs hb, Aside0.mk (hbox), zg HB hg, zg HB hg, zn1 BK167 hg, zn2 BK167 hg⟩; clear BK167 HB; obtain ⟨BK167, HB, BK168, GW168, GE168, NB167_168, NB168_167⟩ := n_; clear hb hbox hg; have hnb26 := NB167_168.out; have hnc26 := NB168_167.out; obtain ⟨z27_0, z27_1, z27_2, z27_3, z27_4, y27_0, y27_1, y27_2, y27_3, y27_4⟩ := zB5 BK167; obtain ⟨z28_0, z28_1, z28_2, z28_3, z28_4, y28_0, y28_1, y28_2, y28_3, y28_4⟩ := zB5 BK168) | ((with_reducible refine gate_callee (f := 159) rfl ?_); refine goesL_ (some 9) rfl rfl Try.func159 (by kernel_rfl) rfl #[.agg #[.int .i8 a0_0, .int .i8 a0_1], .agg #[.int .i8 a1_0, .int .i8 a1_1]] rfl zm ?_; (with_reducible refine (laws_eqCell.calls k a0_0 a0_1 a1_0 a1_1 true _ A3.out).mono ?_); rintro e w29 ⟨rfl, hb⟩; refine ⟨_, rfl, ?_⟩; have n_ : _ ∧ _ ∧ _ := ⟨zk BK167 hb, zk BK168 hb, zbs hb⟩; clear BK167 BK168 HB; obtain ⟨BK167, BK168, HB⟩ := n_; (try clear hb); (try clear hb2); (try clear hk); (try clear hi); obtain ⟨z30_0, z30_1, z30_2, z30_3, z30_4, y30_0, y30_1, y30_2, y30_3, y30_4⟩ := zB5 BK167; obtain ⟨z31_0, z31_1, z31_2, z31_3, z31_4, y31_0, y31_1, y31_2, y31_3, y31_4⟩ := zB5 BK168))
  go_ret
  exact ⟨zv, zbo⟩
 rw [if_pos c6] at H
 have c6b0 : (a0_3 == a1_3) = true := beq_iff_eq.mpr c6
 have c6b1 : (a0_3 != a1_3) = false := bne_eq_false_iff_eq.mpr c6
 clear c6
 by_cases c7 : a0_4 = a1_4
 rotate_left
 ·rw [if_neg c7] at H
  have c7b0 : (a0_4 == a1_4) = false := beq_eq_false_iff_ne.mpr c7
  have c7b1 : (a0_4 != a1_4) = true := bne_iff_ne.mpr c7
  obtain rfl := Option.some.inj H
  go_enter Try.func165, Try.ntmps165
  go_wp2_with (first | ((with_reducible refine gate_dst (N := 2) rfl ?_); refine zbx 2 #[.int .i8 a0_0, .int .i8 a0_1, .int .i8 a0_2, .int .i8 a0_3, .int .i8 a0_4] 91 ?_; intro gb167 hg w16 hbox hb; have n_ : _ ∧ _ ∧ _ ∧ _ := ⟨zb HB hb, Aside0.mk (hbox), zg HB hg, zg HB hg⟩; clear HB; obtain ⟨HB, BK167, GW167, GE167⟩ := n_; clear hb hbox hg) | ((with_reducible refine gate_dst (N := 3) rfl ?_); refine zbx 3 #[.int .i8 a1_0, .int .i8 a1_1, .int .i8 a1_2, .int .i8 a1_3, .int .i8 a1_4] 91 ?_; intro gb168 hg w17 hbox hb; have n_ : _ ∧ _ ∧ _ ∧ _ ∧ _ ∧ _ ∧ _ := ⟨zk BK167 hb, zbs hb, Aside0.mk (hbox), zg HB hg, zg HB hg, zn1 BK167 hg, zn2 BK167 hg⟩; clear BK167 HB; obtain ⟨BK167, HB, BK168, GW168, GE168, NB167_168, NB168_167⟩ := n_; clear hb hbox hg; have hnb18 := NB167_168.out; have hnc18 := NB168_167.out; obtain ⟨z19_0, z19_1, z19_2, z19_3, z19_4, y19_0, y19_1, y19_2, y19_3, y19_4⟩ := zB5 BK167; obtain ⟨z20_0, z20_1, z20_2, z20_3, z20_4, y20_0, y20_1, y20_2, y20_3, y20_4⟩ := zB5 BK168) | ((with_reducible refine gate_callee (f := 159) rfl ?_); refine goesL_ (some 9) rfl rfl Try.func159 (by kernel_rfl) rfl #[.agg #[.int .i8 a0_0, .int .i8 a0_1], .agg #[.int .i8 a1_0, .int .i8 a1_1]] rfl zm ?_; (with_reducible refine (laws_eqCell.calls k a0_0 a0_1 a1_0 a1_1 true _ A3.out).mono ?_); rintro e w21 ⟨rfl, hb⟩; refine ⟨_, rfl, ?_⟩; have n_ : _ ∧ _ ∧ _ := ⟨zk BK167 hb, zk BK168 hb, zbs hb⟩; clear BK167 BK168 HB; obtain ⟨BK167, BK168, HB⟩ := n_; (try clear hb); (try clear hb2); (try clear hk); (try clear hi); obtain ⟨z22_0, z22_1, z22_2, z22_3, z22_4, y22_0, y22_1, y22_2, y22_3, y22_4⟩ := zB5 BK167; obtain ⟨z23_0, z23_1, z23_2, z23_3, z23_4, y23_0, y23_1, y23_2, y23_3, y23_4⟩ := zB5 BK168))
  go_ret
  exact ⟨zv, zbo⟩
 rw [if_pos c7] at H
 have c7b0 : (a0_4 == a1_4) = true := beq_iff_eq.mpr c7
 have c7b1 : (a0_4 != a1_4) = false := bne_eq_false_iff_eq.mpr c7
 clear c7
 obtain rfl := Option.some.inj H
 go_enter Try.func165, Try.ntmps165
 go_wp2_with (first | ((with_reducible refine gate_dst (N := 2) rfl ?_); refine zbx 2 #[.int .i8 a0_0, .int .i8 a0_1, .int .i8 a0_2, .int .i8 a0_3, .int .i8 a0_4] 91 ?_; intro gb167 hg w8 hbox hb; have n_ : _ ∧ _ ∧ _ ∧ _ := ⟨zb HB hb, Aside0.mk (hbox), zg HB hg, zg HB hg⟩; clear HB; obtain ⟨HB, BK167, GW167, GE167⟩ := n_; clear hb hbox hg) | ((with_reducible refine gate_dst (N := 3) rfl ?_); refine zbx 3 #[.int .i8 a1_0, .int .i8 a1_1, .int .i8 a1_2, .int .i8 a1_3, .int .i8 a1_4] 91 ?_; intro gb168 hg w9 hbox hb; have n_ : _ ∧ _ ∧ _ ∧ _ ∧ _ ∧ _ ∧ _ := ⟨zk BK167 hb, zbs hb, Aside0.mk (hbox), zg HB hg, zg HB hg, zn1 BK167 hg, zn2 BK167 hg⟩; clear BK167 HB; obtain ⟨BK167, HB, BK168, GW168, GE168, NB167_168, NB168_167⟩ := n_; clear hb hbox hg; have hnb10 := NB167_168.out; have hnc10 := NB168_167.out; obtain ⟨z11_0, z11_1, z11_2, z11_3, z11_4, y11_0, y11_1, y11_2, y11_3, y11_4⟩ := zB5 BK167; obtain ⟨z12_0, z12_1, z12_2, z12_3, z12_4, y12_0, y12_1, y12_2, y12_3, y12_4⟩ := zB5 BK168) | ((with_reducible refine gate_callee (f := 159) rfl ?_); refine goesL_ (some 9) rfl rfl Try.func159 (by kernel_rfl) rfl #[.agg #[.int .i8 a0_0, .int .i8 a0_1], .agg #[.int .i8 a1_0, .int .i8 a1_1]] rfl zm ?_; (with_reducible refine (laws_eqCell.calls k a0_0 a0_1 a1_0 a1_1 true _ A3.out).mono ?_); rintro e w13 ⟨rfl, hb⟩; refine ⟨_, rfl, ?_⟩; have n_ : _ ∧ _ ∧ _ := ⟨zk BK167 hb, zk BK168 hb, zbs hb⟩; clear BK167 BK168 HB; obtain ⟨BK167, BK168, HB⟩ := n_; (try clear hb); (try clear hb2); (try clear hk); (try clear hi); obtain ⟨z14_0, z14_1, z14_2, z14_3, z14_4, y14_0, y14_1, y14_2, y14_3, y14_4⟩ := zB5 BK167; obtain ⟨z15_0, z15_1, z15_2, z15_3, z15_4, y15_0, y15_1, y15_2, y15_3, y15_4⟩ := zB5 BK168))
 go_ret
 exact ⟨zv, zbo⟩
def laws_eqPieceS.l0 : Nat → List (S91) → List (S91) → Int → Option (Bool)
  | 0, _, _, _ => none
  | k + 1, x0, x1, x5 => if x5 < (x0.length : Int) then (if 0 ≤ x5 then (if x5 < (x1.length : Int) then ((laws_eqPiece.f k ((rd_T91 x0 x5).f0.f0) ((rd_T91 x0 x5).f0.f1) ((rd_T91 x0 x5).f1) ((rd_T91 x0 x5).f2) ((rd_T91 x0 x5).f3) ((rd_T91 x1 x5).f0.f0) ((rd_T91 x1 x5).f0.f1) ((rd_T91 x1 x5).f1) ((rd_T91 x1 x5).f2) ((rd_T91 x1 x5).f3)).bind fun t172 => (if t172 = true then (laws_eqPieceS.l0 k x0 x1 (wrap64 (x5 + 1))) else (some false))) else (none)) else (none)) else (some true)
def laws_eqPieceS.f (k : Nat) (l0 : List (S91)) (l1 : List (S91)) : Option (Bool) := if (l0.length : Int) = (l1.length : Int) then (laws_eqPieceS.l0 k l0 l1 0) else (some false)
theorem laws_eqPieceS.mono_l : ∀ k, (∀ y0 y1 y2, LeO (laws_eqPieceS.l0 k y0 y1 y2) (laws_eqPieceS.l0 (k + 1) y0 y1 y2))
  | 0 => fun _ _ _ r h => by simp [laws_eqPieceS.l0] at h
  | k + 1 => by
    have ih0 := laws_eqPieceS.mono_l k
    · intro y0 y1 y2
      unfold laws_eqPieceS.l0
      repeat' first | (with_reducible first | apply ih0 | apply laws_eqPiece.mono | exact LeO.refl _ | exact LeO.none _ | refine LeO.ite ?_ ?_ | refine LeO.bind ?_ (fun _ => ?_)) | apply ih0 | apply laws_eqPiece.mono | exact LeO.none _ | refine LeO.ite ?_ ?_ | refine LeO.bind ?_ (fun _ => ?_)
theorem laws_eqPieceS.mono : ∀ a0 a1 k, LeO (laws_eqPieceS.f k a0 a1) (laws_eqPieceS.f (k + 1) a0 a1) := by
 intro a0 a1 k
 have ih0 := laws_eqPieceS.mono_l k
 unfold laws_eqPieceS.f
 repeat' first | (with_reducible first | apply ih0 | apply laws_eqPiece.mono | exact LeO.refl _ | exact LeO.none _ | refine LeO.ite ?_ ?_ | refine LeO.bind ?_ (fun _ => ?_)) | apply ih0 | apply laws_eqPiece.mono | exact LeO.none _ | refine LeO.ite ?_ ?_ | refine LeO.bind ?_ (fun _ => ?_)
def laws_eqPieceS.T6 : Bool × List (List Nat × List Nat) := (true, [([], []), ([], []), ([0, 1], [0, 1]), ([2], [2]), ([], []), ([], []), ([4, 5], [4, 5]), ([6], [6]), ([3, 7], [3, 7]), ([8], [8])])
def laws_eqPieceS.B6 : List Nat := [0, 0, 3, 7, 0, 0, 48, 112, 255, 511]
theorem laws_eqPieceS.tab6 : rtab .any (opsOf Try.f110 6) = laws_eqPieceS.T6 := by kernel_rfl
theorem laws_eqPieceS.bits6 : waitsOk laws_eqPieceS.T6.2 laws_eqPieceS.B6 = true := by kernel_rfl
theorem laws_eqPieceS.calls (k : Nat) (A0 : Option Addr) (c0 : Nat) (l0 : List (S91)) (A1 : Option Addr) (c1 : Nat) (l1 : List (S91)) (r : Bool) (w : World) (hr0 : Kd.C k91 w A0 l0.length l0) (hc0 : l0.length ≤ c0) (hr1 : Kd.C k91 w A1 l1.length l1) (hc1 : l1.length ≤ c1) (h : laws_eqPieceS.f k l0 l1 = some r) :
    Calls Try.prog 110 #[.slice A0 l0.length c0, .slice A1 l1.length c1] w fun e w' => e = .returned (.bool r) ∧ Below w.heap.size w w' := by
 have hu91 := Try.underlying91
 have HR0 := Aside0.mk hr0
 have HC0 := Aside0.mk hc0
 clear hr0 hc0
 have HR1 := Aside0.mk hr1
 have HC1 := Aside0.mk hc1
 clear hr1 hc1
 have HB := Aside0.mk (Below.refl w.heap.size w)
 have H : (if (l0.length : Int) = (l1.length : Int) then (laws_eqPieceS.l0 k l0 l1 0) else (some false)) = some r := h
 clear h
 by_cases c3 : (l0.length : Int) = (l1.length : Int)
 rotate_left
 ·rw [if_neg c3] at H
  have c3b0 : ((l0.length : Int) == (l1.length : Int)) = false := beq_eq_false_iff_ne.mpr c3
  have c3b1 : ((l0.length : Int) != (l1.length : Int)) = true := bne_iff_ne.mpr c3
  have c3b2 : (l0.length == l1.length) = false := by first | simpa using c3 | (simp at c3 ⊢; omega)
  obtain rfl := Option.some.inj H
  go_enter Try.func110, Try.ntmps110
  go_wp2
  go_ret
  exact ⟨zv, zbo⟩
 rw [if_pos c3] at H
 have c3b0 : ((l0.length : Int) == (l1.length : Int)) = true := beq_iff_eq.mpr c3
 have c3b1 : ((l0.length : Int) != (l1.length : Int)) = false := bne_eq_false_iff_eq.mpr c3
 have c3b2 : (l0.length == l1.length) = true := by first | simpa using c3 | (simp at c3 ⊢; omega)
 clear c3
 have H' := Aside0.mk H
 clear H
 go_enter Try.func110, Try.ntmps110
 go_wp2
 go_loopg [5] k (fun kq v5 w' => ∃ (x5_1 : Int), v5 = .int .i64 x5_1 ∧ Aside0 (laws_eqPieceS.l0 kq l0 l1 x5_1 = some r) ∧ Aside0 (kq ≤ k) ∧ Aside0 (Below w.heap.size w w'))
 case atStart => exact ⟨(0), zi, H', ⟨Nat.le_refl _⟩, zl HB⟩
 clear H'
 try clear c1
 try clear p2
 try clear c3
 try clear c3b0
 try clear c3b1
 try clear c3b2
 obtain ⟨x5_1, rfl, HA, HK1, HB⟩ := hrel
 cases gk with
 | zero => exact absurd HA.out (by simp [laws_eqPieceS.l0])
 | succ k1 => ?_
 have H := HA.out
 clear HA
 simp only [laws_eqPieceS.l0] at H
 by_cases c4 : x5_1 < (l0.length : Int)
 rotate_left
 ·rw [if_neg c4] at H
  have c4b0 : decide (x5_1 < (l0.length : Int)) = false := decide_eq_false c4
  clear c4
  obtain rfl := Option.some.inj H
  go_wp2
  go_ret
  exact ⟨zv, zbo⟩
 rw [if_pos c4] at H
 have c4b0 : decide (x5_1 < (l0.length : Int)) = true := decide_eq_true c4
 clear c4
 by_cases c5 : 0 ≤ x5_1
 rotate_left
 ·rw [if_neg c5] at H
  exact absurd H (by simp)
 rw [if_pos c5] at H
 have c5b0 : decide (0 ≤ x5_1) = true := decide_eq_true c5
 clear c5
 by_cases c6 : x5_1 < (l1.length : Int)
 rotate_left
 ·rw [if_neg c6] at H
  exact absurd H (by simp)
 rw [if_pos c6] at H
 have c6b0 : decide (x5_1 < (l1.length : Int)) = true := decide_eq_true c6
 clear c6
 replace H := zob H
 obtain ⟨t172, A70, H⟩ := H
 replace H : (if t172 = true then (laws_eqPieceS.l0 k1 l0 l1 (wrap64 (x5_1 + 1))) else (some false)) = some r := H
 have A7 := Aside0.mk A70
 clear A70
 by_cases c8 : t172 = true
 ·subst c8
  have H1 : (laws_eqPieceS.l0 k1 l0 l1 (wrap64 (x5_1 + 1))) = some r := by rw [if_pos rfl] at H; exact H
  clear H
  have H := H1
  clear H1
  have H' := Aside0.mk H
  clear H
  try go_wp2
  have n0_ := Aside0.mk (below_drew1 HB.out)
  clear HB
  have HB := n0_
  clear n0_
  have p170 : 0 ≤ (x5_1 : Int) := of_decide_eq_true zA
  have q170 : x5_1 < (l0.length : Int) := of_decide_eq_true zA
  obtain ⟨ad170, e170, hx170_0, hx170_1, hx170_2, hx170_3, hx170_4⟩ := at_T91 HR0.out x5_1 p170 q170
  have hw170_4 := hx170_4
  have hw170_3 := hx170_3
  have hw170_2 := hx170_2
  have hw170_1 := hx170_1
  have hw170_0 := hx170_0
  cases e170
  replace hx170_0 := zc HB hx170_0
  replace hx170_1 := zc HB hx170_1
  replace hx170_2 := zc HB hx170_2
  replace hx170_3 := zc HB hx170_3
  replace hx170_4 := zc HB hx170_4
  replace p170 := eq_true p170
  replace q170 := eq_true q170
  have p171 : 0 ≤ (x5_1 : Int) := of_decide_eq_true zA
  have q171 : x5_1 < (l1.length : Int) := of_decide_eq_true zA
  obtain ⟨ad171, e171, hx171_0, hx171_1, hx171_2, hx171_3, hx171_4⟩ := at_T91 HR1.out x5_1 p171 q171
  have hw171_4 := hx171_4
  have hw171_3 := hx171_3
  have hw171_2 := hx171_2
  have hw171_1 := hx171_1
  have hw171_0 := hx171_0
  cases e171
  replace hx171_0 := zc HB hx171_0
  replace hx171_1 := zc HB hx171_1
  replace hx171_2 := zc HB hx171_2
  replace hx171_3 := zc HB hx171_3
  replace hx171_4 := zc HB hx171_4
  replace p171 := eq_true p171
  replace q171 := eq_true q171
  refine start_ (n := 10) (S := fun w' => w'.cell? (ad170.add ((x5_1).toNat * 5)) = some (.int .i8 ((rd_T91 l0 x5_1).f0.f0)) ∧ w'.cell? ⟨(ad170.add ((x5_1).toNat * 5)).block, (ad170.add ((x5_1).toNat * 5)).off + 1, none⟩ = some (.int .i8 ((rd_T91 l0 x5_1).f0.f1)) ∧ w'.cell? ⟨(ad170.add ((x5_1).toNat * 5)).block, (ad170.add ((x5_1).toNat * 5)).off + 2, none⟩ = some (.int .i8 ((rd_T91 l0 x5_1).f1)) ∧ w'.cell? ⟨(ad170.add ((x5_1).toNat * 5)).block, (ad170.add ((x5_1).toNat * 5)).off + 3, none⟩ = some (.int .i8 ((rd_T91 l0 x5_1).f2)) ∧ w'.cell? ⟨(ad170.add ((x5_1).toNat * 5)).block, (ad170.add ((x5_1).toNat * 5)).off + 4, none⟩ = some (.int .i8 ((rd_T91 l0 x5_1).f3)) ∧ w'.cell? (ad171.add ((x5_1).toNat * 5)) = some (.int .i8 ((rd_T91 l1 x5_1).f0.f0)) ∧ w'.cell? ⟨(ad171.add ((x5_1).toNat * 5)).block, (ad171.add ((x5_1).toNat * 5)).off + 1, none⟩ = some (.int .i8 ((rd_T91 l1 x5_1).f0.f1)) ∧ w'.cell? ⟨(ad171.add ((x5_1).toNat * 5)).block, (ad171.add ((x5_1).toNat * 5)).off + 2, none⟩ = some (.int .i8 ((rd_T91 l1 x5_1).f1)) ∧ w'.cell? ⟨(ad171.add ((x5_1).toNat * 5)).block, (ad171.add ((x5_1).toNat * 5)).off + 3, none⟩ = some (.int .i8 ((rd_T91 l1 x5_1).f2)) ∧ w'.cell? ⟨(ad171.add ((x5_1).toNat * 5)).block, (ad171.add ((x5_1).toNat * 5)).off + 4, none⟩ = some (.int .i8 ((rd_T91 l1 x5_1).f3))) (ds := []) (zq 10 0) (by kernel_rfl) rfl rfl ⟨(zc HB hw170_0), (zc HB hw170_1), (zc HB hw170_2), (zc HB hw170_3), (zc HB hw170_4), (zc HB hw171_0), (zc HB hw171_1), (zc HB hw171_2), (zc HB hw171_3), (zc HB hw171_4)⟩ (fun hHeld => ?_); refine with_tabW laws_eqPieceS.tab6 laws_eqPieceS.bits6 (fun HT_ HW_ => ?_)
  generalize wr.drew = w9 at HB hx170_0 hx170_1 hx170_2 hx170_3 hx170_4 hx171_0 hx171_1 hx171_2 hx171_3 hx171_4 hHeld ⊢
  refine zpu 0 (some 17) (zq 10 1) HT_ ?_
  refine zpu 1 (some 18) (zq 10 3) HT_ ?_
  refine zpu 2 (some 19) (zq 10 7) HT_ ?_
  refine zpu 4 (some 21) (zq 10 23) HT_ ?_
  refine zpu 5 (some 22) (zq 10 55) HT_ ?_
  refine zpu 6 (some 23) (zq 10 119) HT_ ?_
  refine ztk 3 (some 20) (zq 10 127) HT_ HW_ rfl hHeld (Or.inl ⟨by rfl, by (rintro w' ⟨s0, s1, s2, s3, s4, s5, s6, s7, s8, s9⟩; go_simp; with_reducible rfl)⟩) ?_
  refine ztk 7 (some 24) (zq 10 255) HT_ HW_ rfl hHeld (Or.inl ⟨by rfl, by (rintro w' ⟨s0, s1, s2, s3, s4, s5, s6, s7, s8, s9⟩; go_simp; with_reducible rfl)⟩) ?_
  refine one_ (i := 8) (N := some 25) (zq 10 511) rfl rfl (one_of HT_.out (by kernel_rfl)) (by decide) (fun K hK => ?_)
  refine goes_ Try.func165 (by kernel_rfl) rfl #[.agg #[.int .i8 ((rd_T91 l0 x5_1).f0.f0), .int .i8 ((rd_T91 l0 x5_1).f0.f1), .int .i8 ((rd_T91 l0 x5_1).f1), .int .i8 ((rd_T91 l0 x5_1).f2), .int .i8 ((rd_T91 l0 x5_1).f3)], .agg #[.int .i8 ((rd_T91 l1 x5_1).f0.f0), .int .i8 ((rd_T91 l1 x5_1).f0.f1), .int .i8 ((rd_T91 l1 x5_1).f1), .int .i8 ((rd_T91 l1 x5_1).f2), .int .i8 ((rd_T91 l1 x5_1).f3)]] (by rfl) rfl rfl zm ?_
  with_reducible refine (laws_eqPiece.calls k1 ((rd_T91 l0 x5_1).f0.f0) ((rd_T91 l0 x5_1).f0.f1) ((rd_T91 l0 x5_1).f1) ((rd_T91 l0 x5_1).f2) ((rd_T91 l0 x5_1).f3) ((rd_T91 l1 x5_1).f0.f0) ((rd_T91 l1 x5_1).f0.f1) ((rd_T91 l1 x5_1).f1) ((rd_T91 l1 x5_1).f2) ((rd_T91 l1 x5_1).f3) true _ A7.out).mono ?_
  rintro e w10 ⟨rfl, hb⟩
  refine ⟨_, rfl, ?_⟩
  have n0_ := zb HB hb
  clear HB
  have HB := n0_
  clear n0_
  (try clear hb)
  (try clear hb2)
  (try clear hk)
  (try clear hi)
  refine hK.out _ _ ⟨(zc HB hw170_0), (zc HB hw170_1), (zc HB hw170_2), (zc HB hw170_3), (zc HB hw170_4), (zc HB hw171_0), (zc HB hw171_1), (zc HB hw171_2), (zc HB hw171_3), (zc HB hw171_4)⟩ (fun hHeld => ?_)
  clear hK K
  refine norm_ (a' := ?_) ?_ ?_
  rotate_left
  ·show Act.put _ (some 25) _ = _
   exact zap
  refine zpu 9 (some 26) (zq 10 1023) HT_ ?_
  refine done_ (done_of HT_.out (by kernel_rfl)) ?_
  try go_wp2
  go_roundg k1
  case measure => have := HK1.out; omega
  case rel => exact ⟨(wrap64 (x5_1 + 1)), zi, H', ⟨by have := HK1.out; omega⟩, zl HB⟩
 replace c8 := Bool.eq_false_iff.mpr c8
 subst c8
 have H1 : (some false) = some r := by rw [if_neg (show ¬ (false = true) by decide)] at H; exact H
 clear H
 have H := H1
 clear H1
 obtain rfl := Option.some.inj H
 try go_wp2
 have n0_ := Aside0.mk (below_drew1 HB.out)
 clear HB
 have HB := n0_
 clear n0_
 have p170 : 0 ≤ (x5_1 : Int) := of_decide_eq_true zA
 have q170 : x5_1 < (l0.length : Int) := of_decide_eq_true zA
 obtain ⟨ad170, e170, hx170_0, hx170_1, hx170_2, hx170_3, hx170_4⟩ := at_T91 HR0.out x5_1 p170 q170
 have hw170_4 := hx170_4
 have hw170_3 := hx170_3
 have hw170_2 := hx170_2
 have hw170_1 := hx170_1
 have hw170_0 := hx170_0
 cases e170
 replace hx170_0 := zc HB hx170_0
 replace hx170_1 := zc HB hx170_1
 replace hx170_2 := zc HB hx170_2
 replace hx170_3 := zc HB hx170_3
 replace hx170_4 := zc HB hx170_4
 replace p170 := eq_true p170
 replace q170 := eq_true q170
 have p171 : 0 ≤ (x5_1 : Int) := of_decide_eq_true zA
 have q171 : x5_1 < (l1.length : Int) := of_decide_eq_true zA
 obtain ⟨ad171, e171, hx171_0, hx171_1, hx171_2, hx171_3, hx171_4⟩ := at_T91 HR1.out x5_1 p171 q171
 have hw171_4 := hx171_4
 have hw171_3 := hx171_3
 have hw171_2 := hx171_2
 have hw171_1 := hx171_1
 have hw171_0 := hx171_0
 cases e171
 replace hx171_0 := zc HB hx171_0
 replace hx171_1 := zc HB hx171_1
 replace hx171_2 := zc HB hx171_2
 replace hx171_3 := zc HB hx171_3
 replace hx171_4 := zc HB hx171_4
 replace p171 := eq_true p171
 replace q171 := eq_true q171
 refine start_ (n := 10) (S := fun w' => w'.cell? (ad170.add ((x5_1).toNat * 5)) = some (.int .i8 ((rd_T91 l0 x5_1).f0.f0)) ∧ w'.cell? ⟨(ad170.add ((x5_1).toNat * 5)).block, (ad170.add ((x5_1).toNat * 5)).off + 1, none⟩ = some (.int .i8 ((rd_T91 l0 x5_1).f0.f1)) ∧ w'.cell? ⟨(ad170.add ((x5_1).toNat * 5)).block, (ad170.add ((x5_1).toNat * 5)).off + 2, none⟩ = some (.int .i8 ((rd_T91 l0 x5_1).f1)) ∧ w'.cell? ⟨(ad170.add ((x5_1).toNat * 5)).block, (ad170.add ((x5_1).toNat * 5)).off + 3, none⟩ = some (.int .i8 ((rd_T91 l0 x5_1).f2)) ∧ w'.cell? ⟨(ad170.add ((x5_1).toNat * 5)).block, (ad170.add ((x5_1).toNat * 5)).off + 4, none⟩ = some (.int .i8 ((rd_T91 l0 x5_1).f3)) ∧ w'.cell? (ad171.add ((x5_1).toNat * 5)) = some (.int .i8 ((rd_T91 l1 x5_1).f0.f0)) ∧ w'.cell? ⟨(ad171.add ((x5_1).toNat * 5)).block, (ad171.add ((x5_1).toNat * 5)).off + 1, none⟩ = some (.int .i8 ((rd_T91 l1 x5_1).f0.f1)) ∧ w'.cell? ⟨(ad171.add ((x5_1).toNat * 5)).block, (ad171.add ((x5_1).toNat * 5)).off + 2, none⟩ = some (.int .i8 ((rd_T91 l1 x5_1).f1)) ∧ w'.cell? ⟨(ad171.add ((x5_1).toNat * 5)).block, (ad171.add ((x5_1).toNat * 5)).off + 3, none⟩ = some (.int .i8 ((rd_T91 l1 x5_1).f2)) ∧ w'.cell? ⟨(ad171.add ((x5_1).toNat * 5)).block, (ad171.add ((x5_1).toNat * 5)).off + 4, none⟩ = some (.int .i8 ((rd_T91 l1 x5_1).f3))) (ds := []) (zq 10 0) (by kernel_rfl) rfl rfl ⟨(zc HB hw170_0), (zc HB hw170_1), (zc HB hw170_2), (zc HB hw170_3), (zc HB hw170_4), (zc HB hw171_0), (zc HB hw171_1), (zc HB hw171_2), (zc HB hw171_3), (zc HB hw171_4)⟩ (fun hHeld => ?_); refine with_tabW laws_eqPieceS.tab6 laws_eqPieceS.bits6 (fun HT_ HW_ => ?_)
 generalize wr.drew = w11 at HB hx170_0 hx170_1 hx170_2 hx170_3 hx170_4 hx171_0 hx171_1 hx171_2 hx171_3 hx171_4 hHeld ⊢
 refine zpu 0 (some 17) (zq 10 1) HT_ ?_
 refine zpu 1 (some 18) (zq 10 3) HT_ ?_
 refine zpu 2 (some 19) (zq 10 7) HT_ ?_
 refine zpu 4 (some 21) (zq 10 23) HT_ ?_
 refine zpu 5 (some 22) (zq 10 55) HT_ ?_
 refine zpu 6 (some 23) (zq 10 119) HT_ ?_
 refine ztk 3 (some 20) (zq 10 127) HT_ HW_ rfl hHeld (Or.inl ⟨by rfl, by (rintro w' ⟨s0, s1, s2, s3, s4, s5, s6, s7, s8, s9⟩; go_simp; with_reducible rfl)⟩) ?_
 refine ztk 7 (some 24) (zq 10 255) HT_ HW_ rfl hHeld (Or.inl ⟨by rfl, by (rintro w' ⟨s0, s1, s2, s3, s4, s5, s6, s7, s8, s9⟩; go_simp; with_reducible rfl)⟩) ?_
 refine one_ (i := 8) (N := some 25) (zq 10 511) rfl rfl (one_of HT_.out (by kernel_rfl)) (by decide) (fun K hK => ?_)
 refine goes_ Try.func165 (by kernel_rfl) rfl #[.agg #[.int .i8 ((rd_T91 l0 x5_1).f0.f0), .int .i8 ((rd_T91 l0 x5_1).f0.f1), .int .i8 ((rd_T91 l0 x5_1).f1), .int .i8 ((rd_T91 l0 x5_1).f2), .int .i8 ((rd_T91 l0 x5_1).f3)], .agg #[.int .i8 ((rd_T91 l1 x5_1).f0.f0), .int .i8 ((rd_T91 l1 x5_1).f0.f1), .int .i8 ((rd_T91 l1 x5_1).f1), .int .i8 ((rd_T91 l1 x5_1).f2), .int .i8 ((rd_T91 l1 x5_1).f3)]] (by rfl) rfl rfl zm ?_
 with_reducible refine (laws_eqPiece.calls k1 ((rd_T91 l0 x5_1).f0.f0) ((rd_T91 l0 x5_1).f0.f1) ((rd_T91 l0 x5_1).f1) ((rd_T91 l0 x5_1).f2) ((rd_T91 l0 x5_1).f3) ((rd_T91 l1 x5_1).f0.f0) ((rd_T91 l1 x5_1).f0.f1) ((rd_T91 l1 x5_1).f1) ((rd_T91 l1 x5_1).f2) ((rd_T91 l1 x5_1).f3) false _ A7.out).mono ?_
 rintro e w12 ⟨rfl, hb⟩
 refine ⟨_, rfl, ?_⟩
 have n0_ := zb HB hb
 clear HB
 have HB := n0_
 clear n0_
 (try clear hb)
 (try clear hb2)
 (try clear hk)
 (try clear hi)
 refine hK.out _ _ ⟨(zc HB hw170_0), (zc HB hw170_1), (zc HB hw170_2), (zc HB hw170_3), (zc HB hw170_4), (zc HB hw171_0), (zc HB hw171_1), (zc HB hw171_2), (zc HB hw171_3), (zc HB hw171_4)⟩ (fun hHeld => ?_)
 clear hK K
 refine norm_ (a' := ?_) ?_ ?_
 rotate_left
 ·show Act.put _ (some 25) _ = _
  exact zap
 refine zpu 9 (some 26) (zq 10 1023) HT_ ?_
 refine done_ (done_of HT_.out (by kernel_rfl)) ?_
 try go_wp2
 go_ret
 exact ⟨zv, zbo⟩
def laws_eqBoard.f (k : Nat) (a0_0 : Int) (a0_1 : Int) (l0_2 : List (S91)) (a1_0 : Int) (a1_1 : Int) (l1_2 : List (S91)) : Option (Bool) := if a0_0 = a1_0 then (if a0_1 = a1_1 then ((laws_eqPieceS.f k l0_2 l1_2).bind fun t175 => (if t175 = true then (some true) else (some false))) else (some false)) else (some false)
theorem laws_eqBoard.mono : ∀ a0 a1 a2 a3 a4 a5 k, LeO (laws_eqBoard.f k a0 a1 a2 a3 a4 a5) (laws_eqBoard.f (k + 1) a0 a1 a2 a3 a4 a5) := by
 intro a0 a1 a2 a3 a4 a5 k
 unfold laws_eqBoard.f
 repeat' first | (with_reducible first | apply laws_eqPieceS.mono | exact LeO.refl _ | exact LeO.none _ | refine LeO.ite ?_ ?_ | refine LeO.bind ?_ (fun _ => ?_)) | apply laws_eqPieceS.mono | exact LeO.none _ | refine LeO.ite ?_ ?_ | refine LeO.bind ?_ (fun _ => ?_)
theorem laws_eqBoard.calls (k : Nat) (a0_0 : Int) (a0_1 : Int) (A0_2 : Option Addr) (c0_2 : Nat) (l0_2 : List (S91)) (a1_0 : Int) (a1_1 : Int) (A1_2 : Option Addr) (c1_2 : Nat) (l1_2 : List (S91)) (r : Bool) (w : World) (hr0_2 : Kd.C k91 w A0_2 l0_2.length l0_2) (hc0_2 : l0_2.length ≤ c0_2) (hr1_2 : Kd.C k91 w A1_2 l1_2.length l1_2) (hc1_2 : l1_2.length ≤ c1_2) (h : laws_eqBoard.f k a0_0 a0_1 l0_2 a1_0 a1_1 l1_2 = some r) :
    Calls Try.prog 44 #[.agg #[.int .i8 a0_0, .int .i8 a0_1, .slice A0_2 l0_2.length c0_2], .agg #[.int .i8 a1_0, .int .i8 a1_1, .slice A1_2 l1_2.length c1_2]] w fun e w' => e = .returned (.bool r) ∧ Below w.heap.size w w' := by
 have hu37 := Try.underlying37
 have HR0_2 := Aside0.mk hr0_2
 have HC0_2 := Aside0.mk hc0_2
 clear hr0_2 hc0_2
 have HR1_2 := Aside0.mk hr1_2
 have HC1_2 := Aside0.mk hc1_2
 clear hr1_2 hc1_2
 have HB := Aside0.mk (Below.refl w.heap.size w)
 have H : (if a0_0 = a1_0 then (if a0_1 = a1_1 then ((laws_eqPieceS.f k l0_2 l1_2).bind fun t175 => (if t175 = true then (some true) else (some false))) else (some false)) else (some false)) = some r := h
 clear h
 by_cases c3 : a0_0 = a1_0
 rotate_left
 ·rw [if_neg c3] at H
  have c3b0 : (a0_0 == a1_0) = false := beq_eq_false_iff_ne.mpr c3
  have c3b1 : (a0_0 != a1_0) = true := bne_iff_ne.mpr c3
  obtain rfl := Option.some.inj H
  go_enter Try.func44, Try.ntmps44
  go_wp2_with (first | ((with_reducible refine gate_dst (N := 2) rfl ?_); refine zbx 2 #[.int .i8 a0_0, .int .i8 a0_1, .slice A0_2 l0_2.length c0_2] 37 ?_; intro gb173 hg w24 hbox hb; have n_ : _ ∧ _ ∧ _ ∧ _ := ⟨zb HB hb, Aside0.mk (hbox), zg HB hg, zg HB hg⟩; clear HB; obtain ⟨HB, BK173, GW173, GE173⟩ := n_; clear hb hbox hg) | ((with_reducible refine gate_dst (N := 3) rfl ?_); refine zbx 3 #[.int .i8 a1_0, .int .i8 a1_1, .slice A1_2 l1_2.length c1_2] 37 ?_; intro gb174 hg w25 hbox hb; have n_ : _ ∧ _ ∧ _ ∧ _ ∧ _ ∧ _ ∧ _ := ⟨zk BK173 hb, zbs hb, Aside0.mk (hbox), zg HB hg, zg HB hg, zn1 BK173 hg, zn2 BK173 hg⟩; clear BK173 HB; obtain ⟨BK173, HB, BK174, GW174, GE174, NB173_174, NB174_173⟩ := n_; clear hb hbox hg; have hnb26 := NB173_174.out; have hnc26 := NB174_173.out; obtain ⟨z27_0, z27_1, z27_2, y27_0, y27_1, y27_2⟩ := zB3 BK173; obtain ⟨z28_0, z28_1, z28_2, y28_0, y28_1, y28_2⟩ := zB3 BK174))
  go_ret
  exact ⟨zv, zbo⟩
 rw [if_pos c3] at H
 have c3b0 : (a0_0 == a1_0) = true := beq_iff_eq.mpr c3
 have c3b1 : (a0_0 != a1_0) = false := bne_eq_false_iff_eq.mpr c3
 clear c3
 by_cases c4 : a0_1 = a1_1
 rotate_left
 ·rw [if_neg c4] at H
  have c4b0 : (a0_1 == a1_1) = false := beq_eq_false_iff_ne.mpr c4
  have c4b1 : (a0_1 != a1_1) = true := bne_iff_ne.mpr c4
  obtain rfl := Option.some.inj H
  go_enter Try.func44, Try.ntmps44
  go_wp2_with (first | ((with_reducible refine gate_dst (N := 2) rfl ?_); refine zbx 2 #[.int .i8 a0_0, .int .i8 a0_1, .slice A0_2 l0_2.length c0_2] 37 ?_; intro gb173 hg w19 hbox hb; have n_ : _ ∧ _ ∧ _ ∧ _ := ⟨zb HB hb, Aside0.mk (hbox), zg HB hg, zg HB hg⟩; clear HB; obtain ⟨HB, BK173, GW173, GE173⟩ := n_; clear hb hbox hg) | ((with_reducible refine gate_dst (N := 3) rfl ?_); refine zbx 3 #[.int .i8 a1_0, .int .i8 a1_1, .slice A1_2 l1_2.length c1_2] 37 ?_; intro gb174 hg w20 hbox hb; have n_ : _ ∧ _ ∧ _ ∧ _ ∧ _ ∧ _ ∧ _ := ⟨zk BK173 hb, zbs hb, Aside0.mk (hbox), zg HB hg, zg HB hg, zn1 BK173 hg, zn2 BK173 hg⟩; clear BK173 HB; obtain ⟨BK173, HB, BK174, GW174, GE174, NB173_174, NB174_173⟩ := n_; clear hb hbox hg; have hnb21 := NB173_174.out; have hnc21 := NB174_173.out; obtain ⟨z22_0, z22_1, z22_2, y22_0, y22_1, y22_2⟩ := zB3 BK173; obtain ⟨z23_0, z23_1, z23_2, y23_0, y23_1, y23_2⟩ := zB3 BK174))
  go_ret
  exact ⟨zv, zbo⟩
 rw [if_pos c4] at H
 have c4b0 : (a0_1 == a1_1) = true := beq_iff_eq.mpr c4
 have c4b1 : (a0_1 != a1_1) = false := bne_eq_false_iff_eq.mpr c4
 clear c4
 replace H := zob H
 obtain ⟨t175, A50, H⟩ := H
 replace H : (if t175 = true then (some true) else (some false)) = some r := H
 have A5 := Aside0.mk A50
 clear A50
 by_cases c6 : t175 = true
 ·subst c6
  have H1 : (some true) = some r := by rw [if_pos rfl] at H; exact H
  clear H
  have H := H1
  clear H1
  obtain rfl := Option.some.inj H
  go_enter Try.func44, Try.ntmps44
  go_wp2_with (first | ((with_reducible refine gate_dst (N := 2) rfl ?_); refine zbx 2 #[.int .i8 a0_0, .int .i8 a0_1, .slice A0_2 l0_2.length c0_2] 37 ?_; intro gb173 hg w7 hbox hb; have n_ : _ ∧ _ ∧ _ ∧ _ := ⟨zb HB hb, Aside0.mk (hbox), zg HB hg, zg HB hg⟩; clear HB; obtain ⟨HB, BK173, GW173, GE173⟩ := n_; clear hb hbox hg) | ((with_reducible refine gate_dst (N := 3) rfl ?_); refine zbx 3 #[.int .i8 a1_0, .int .i8 a1_1, .slice A1_2 l1_2.length c1_2] 37 ?_; intro gb174 hg w8 hbox hb; have n_ : _ ∧ _ ∧ _ ∧ _ ∧ _ ∧ _ ∧ _ := ⟨zk BK173 hb, zbs hb, Aside0.mk (hbox), zg HB hg, zg HB hg, zn1 BK173 hg, zn2 BK173 hg⟩; clear BK173 HB; obtain ⟨BK173, HB, BK174, GW174, GE174, NB173_174, NB174_173⟩ := n_; clear hb hbox hg; have hnb9 := NB173_174.out; have hnc9 := NB174_173.out; obtain ⟨z10_0, z10_1, z10_2, y10_0, y10_1, y10_2⟩ := zB3 BK173; obtain ⟨z11_0, z11_1, z11_2, y11_0, y11_1, y11_2⟩ := zB3 BK174) | ((with_reducible refine gate_callee (f := 110) rfl ?_); refine goesL_ (some 19) rfl rfl Try.func110 (by kernel_rfl) rfl #[.slice A0_2 l0_2.length c0_2, .slice A1_2 l1_2.length c1_2] rfl zm ?_; (with_reducible refine (laws_eqPieceS.calls k _ _ l0_2 _ _ l1_2 true _ ?side1 ?side2 ?side3 ?side4 A5.out).mono ?_); (case side1 => exact zcc HB HR0_2.out); (case side2 => exact HC0_2.out); (case side3 => exact zcc HB HR1_2.out); (case side4 => exact HC1_2.out); rintro e w12 ⟨rfl, hb⟩; refine ⟨_, rfl, ?_⟩; have n_ : _ ∧ _ ∧ _ := ⟨zk BK173 hb, zk BK174 hb, zbs hb⟩; clear BK173 BK174 HB; obtain ⟨BK173, BK174, HB⟩ := n_; (try clear hb); (try clear hb2); (try clear hk); (try clear hi)))
  go_ret
  exact ⟨zv, zbo⟩
 replace c6 := Bool.eq_false_iff.mpr c6
 subst c6
 have H1 : (some false) = some r := by rw [if_neg (show ¬ (false = true) by decide)] at H; exact H
 clear H
 have H := H1
 clear H1
 obtain rfl := Option.some.inj H
 go_enter Try.func44, Try.ntmps44
 go_wp2_with (first | ((with_reducible refine gate_dst (N := 2) rfl ?_); refine zbx 2 #[.int .i8 a0_0, .int .i8 a0_1, .slice A0_2 l0_2.length c0_2] 37 ?_; intro gb173 hg w13 hbox hb; have n_ : _ ∧ _ ∧ _ ∧ _ := ⟨zb HB hb, Aside0.mk (hbox), zg HB hg, zg HB hg⟩; clear HB; obtain ⟨HB, BK173, GW173, GE173⟩ := n_; clear hb hbox hg) | ((with_reducible refine gate_dst (N := 3) rfl ?_); refine zbx 3 #[.int .i8 a1_0, .int .i8 a1_1, .slice A1_2 l1_2.length c1_2] 37 ?_; intro gb174 hg w14 hbox hb; have n_ : _ ∧ _ ∧ _ ∧ _ ∧ _ ∧ _ ∧ _ := ⟨zk BK173 hb, zbs hb, Aside0.mk (hbox), zg HB hg, zg HB hg, zn1 BK173 hg, zn2 BK173 hg⟩; clear BK173 HB; obtain ⟨BK173, HB, BK174, GW174, GE174, NB173_174, NB174_173⟩ := n_; clear hb hbox hg; have hnb15 := NB173_174.out; have hnc15 := NB174_173.out; obtain ⟨z16_0, z16_1, z16_2, y16_0, y16_1, y16_2⟩ := zB3 BK173; obtain ⟨z17_0, z17_1, z17_2, y17_0, y17_1, y17_2⟩ := zB3 BK174) | ((with_reducible refine gate_callee (f := 110) rfl ?_); refine goesL_ (some 19) rfl rfl Try.func110 (by kernel_rfl) rfl #[.slice A0_2 l0_2.length c0_2, .slice A1_2 l1_2.length c1_2] rfl zm ?_; (with_reducible refine (laws_eqPieceS.calls k _ _ l0_2 _ _ l1_2 false _ ?side1 ?side2 ?side3 ?side4 A5.out).mono ?_); (case side1 => exact zcc HB HR0_2.out); (case side2 => exact HC0_2.out); (case side3 => exact zcc HB HR1_2.out); (case side4 => exact HC1_2.out); rintro e w18 ⟨rfl, hb⟩; refine ⟨_, rfl, ?_⟩; have n_ : _ ∧ _ ∧ _ := ⟨zk BK173 hb, zk BK174 hb, zbs hb⟩; clear BK173 BK174 HB; obtain ⟨BK173, BK174, HB⟩ := n_; (try clear hb); (try clear hb2); (try clear hk); (try clear hi)))
 go_ret
 exact ⟨zv, zbo⟩
def laws_eqPort.f (k : Nat) (a0_0 : Int) (a0_1 : Int) (a0_2 : Int) (a1_0 : Int) (a1_1 : Int) (a1_2 : Int) : Option (Bool) := (laws_eqCell.f k a0_0 a0_1 a1_0 a1_1).bind fun t178 => (if t178 = true then (if a0_2 = a1_2 then (some true) else (some false)) else (some false))
theorem laws_eqPort.mono : ∀ a0 a1 a2 a3 a4 a5 k, LeO (laws_eqPort.f k a0 a1 a2 a3 a4 a5) (laws_eqPort.f (k + 1) a0 a1 a2 a3 a4 a5) := by
 intro a0 a1 a2 a3 a4 a5 k
 unfold laws_eqPort.f
 repeat' first | (with_reducible first | apply laws_eqCell.mono | exact LeO.refl _ | exact LeO.none _ | refine LeO.ite ?_ ?_ | refine LeO.bind ?_ (fun _ => ?_)) | apply laws_eqCell.mono | exact LeO.none _ | refine LeO.ite ?_ ?_ | refine LeO.bind ?_ (fun _ => ?_)
theorem laws_eqPort.calls (k : Nat) (a0_0 : Int) (a0_1 : Int) (a0_2 : Int) (a1_0 : Int) (a1_1 : Int) (a1_2 : Int) (r : Bool) (w : World) (h : laws_eqPort.f k a0_0 a0_1 a0_2 a1_0 a1_1 a1_2 = some r) :
    Calls Try.prog 160 #[.agg #[.int .i8 a0_0, .int .i8 a0_1, .int .i8 a0_2], .agg #[.int .i8 a1_0, .int .i8 a1_1, .int .i8 a1_2]] w fun e w' => e = .returned (.bool r) ∧ Below w.heap.size w w' := by
 have hu116 := Try.underlying116
 have hu74 := Try.underlying74
 have HB := Aside0.mk (Below.refl w.heap.size w)
 have H : ((laws_eqCell.f k a0_0 a0_1 a1_0 a1_1).bind fun t178 => (if t178 = true then (if a0_2 = a1_2 then (some true) else (some false)) else (some false))) = some r := h
 clear h
 replace H := zob H
 obtain ⟨t178, A30, H⟩ := H
 replace H : (if t178 = true then (if a0_2 = a1_2 then (some true) else (some false)) else (some false)) = some r := H
 have A3 := Aside0.mk A30
 clear A30
 by_cases c4 : t178 = true
 rotate_left
 ·replace c4 := Bool.eq_false_iff.mpr c4
  subst c4
  have H1 : (some false) = some r := by rw [if_neg (show ¬ (false = true) by decide)] at H; exact H
  clear H
  have H := H1
  clear H1
  obtain rfl := Option.some.inj H
  go_enter Try.func160, Try.ntmps160
  go_wp2_with (first | ((with_reducible refine gate_dst (N := 2) rfl ?_); refine zbx 2 #[.int .i8 a0_0, .int .i8 a0_1, .int .i8 a0_2] 116 ?_; intro gb176 hg w22 hbox hb; have n_ : _ ∧ _ ∧ _ ∧ _ := ⟨zb HB hb, Aside0.mk (hbox), zg HB hg, zg HB hg⟩; clear HB; obtain ⟨HB, BK176, GW176, GE176⟩ := n_; clear hb hbox hg) | ((with_reducible refine gate_dst (N := 3) rfl ?_); refine zbx 3 #[.int .i8 a1_0, .int .i8 a1_1, .int .i8 a1_2] 116 ?_; intro gb177 hg w23 hbox hb; have n_ : _ ∧ _ ∧ _ ∧ _ ∧ _ ∧ _ ∧ _ := ⟨zk BK176 hb, zbs hb, Aside0.mk (hbox), zg HB hg, zg HB hg, zn1 BK176 hg, zn2 BK176 hg⟩; clear BK176 HB; obtain ⟨BK176, HB, BK177, GW177, GE177, NB176_177, NB177_176⟩ := n_; clear hb hbox hg; have hnb24 := NB176_177.out; have hnc24 := NB177_176.out; obtain ⟨z25_0, z25_1, z25_2, y25_0, y25_1, y25_2⟩ := zB3 BK176; obtain ⟨z26_0, z26_1, z26_2, y26_0, y26_1, y26_2⟩ := zB3 BK177) | ((with_reducible refine gate_callee (f := 159) rfl ?_); refine goesL_ (some 9) rfl rfl Try.func159 (by kernel_rfl) rfl #[.agg #[.int .i8 a0_0, .int .i8 a0_1], .agg #[.int .i8 a1_0, .int .i8 a1_1]] rfl zm ?_; (with_reducible refine (laws_eqCell.calls k a0_0 a0_1 a1_0 a1_1 false _ A3.out).mono ?_); rintro e w27 ⟨rfl, hb⟩; refine ⟨_, rfl, ?_⟩; have n_ : _ ∧ _ ∧ _ := ⟨zk BK176 hb, zk BK177 hb, zbs hb⟩; clear BK176 BK177 HB; obtain ⟨BK176, BK177, HB⟩ := n_; (try clear hb); (try clear hb2); (try clear hk); (try clear hi)))
  go_ret
  exact ⟨zv, zbo⟩
 subst c4
 have H1 : (if a0_2 = a1_2 then (some true) else (some false)) = some r := by rw [if_pos rfl] at H; exact H
 clear H
 have H := H1
 clear H1
 by_cases c5 : a0_2 = a1_2
 ·rw [if_pos c5] at H
  have c5b0 : (a0_2 == a1_2) = true := beq_iff_eq.mpr c5
  have c5b1 : (a0_2 != a1_2) = false := bne_eq_false_iff_eq.mpr c5
  clear c5
  obtain rfl := Option.some.inj H
  go_enter Try.func160, Try.ntmps160
  go_wp2_with (first | ((with_reducible refine gate_dst (N := 2) rfl ?_); refine zbx 2 #[.int .i8 a0_0, .int .i8 a0_1, .int .i8 a0_2] 116 ?_; intro gb176 hg w6 hbox hb; have n_ : _ ∧ _ ∧ _ ∧ _ := ⟨zb HB hb, Aside0.mk (hbox), zg HB hg, zg HB hg⟩; clear HB; obtain ⟨HB, BK176, GW176, GE176⟩ := n_; clear hb hbox hg) | ((with_reducible refine gate_dst (N := 3) rfl ?_); refine zbx 3 #[.int .i8 a1_0, .int .i8 a1_1, .int .i8 a1_2] 116 ?_; intro gb177 hg w7 hbox hb; have n_ : _ ∧ _ ∧ _ ∧ _ ∧ _ ∧ _ ∧ _ := ⟨zk BK176 hb, zbs hb, Aside0.mk (hbox), zg HB hg, zg HB hg, zn1 BK176 hg, zn2 BK176 hg⟩; clear BK176 HB; obtain ⟨BK176, HB, BK177, GW177, GE177, NB176_177, NB177_176⟩ := n_; clear hb hbox hg; have hnb8 := NB176_177.out; have hnc8 := NB177_176.out; obtain ⟨z9_0, z9_1, z9_2, y9_0, y9_1, y9_2⟩ := zB3 BK176; obtain ⟨z10_0, z10_1, z10_2, y10_0, y10_1, y10_2⟩ := zB3 BK177) | ((with_reducible refine gate_callee (f := 159) rfl ?_); refine goesL_ (some 9) rfl rfl Try.func159 (by kernel_rfl) rfl #[.agg #[.int .i8 a0_0, .int .i8 a0_1], .agg #[.int .i8 a1_0, .int .i8 a1_1]] rfl zm ?_; (with_reducible refine (laws_eqCell.calls k a0_0 a0_1 a1_0 a1_1 true _ A3.out).mono ?_); rintro e w11 ⟨rfl, hb⟩; refine ⟨_, rfl, ?_⟩; have n_ : _ ∧ _ ∧ _ := ⟨zk BK176 hb, zk BK177 hb, zbs hb⟩; clear BK176 BK177 HB; obtain ⟨BK176, BK177, HB⟩ := n_; (try clear hb); (try clear hb2); (try clear hk); (try clear hi); obtain ⟨z12_0, z12_1, z12_2, y12_0, y12_1, y12_2⟩ := zB3 BK176; obtain ⟨z13_0, z13_1, z13_2, y13_0, y13_1, y13_2⟩ := zB3 BK177))
  go_ret
  exact ⟨zv, zbo⟩
 rw [if_neg c5] at H
 have c5b0 : (a0_2 == a1_2) = false := beq_eq_false_iff_ne.mpr c5
 have c5b1 : (a0_2 != a1_2) = true := bne_iff_ne.mpr c5
 obtain rfl := Option.some.inj H
 go_enter Try.func160, Try.ntmps160
 go_wp2_with (first | ((with_reducible refine gate_dst (N := 2) rfl ?_); refine zbx 2 #[.int .i8 a0_0, .int .i8 a0_1, .int .i8 a0_2] 116 ?_; intro gb176 hg w14 hbox hb; have n_ : _ ∧ _ ∧ _ ∧ _ := ⟨zb HB hb, Aside0.mk (hbox), zg HB hg, zg HB hg⟩; clear HB; obtain ⟨HB, BK176, GW176, GE176⟩ := n_; clear hb hbox hg) | ((with_reducible refine gate_dst (N := 3) rfl ?_); refine zbx 3 #[.int .i8 a1_0, .int .i8 a1_1, .int .i8 a1_2] 116 ?_; intro gb177 hg w15 hbox hb; have n_ : _ ∧ _ ∧ _ ∧ _ ∧ _ ∧ _ ∧ _ := ⟨zk BK176 hb, zbs hb, Aside0.mk (hbox), zg HB hg, zg HB hg, zn1 BK176 hg, zn2 BK176 hg⟩; clear BK176 HB; obtain ⟨BK176, HB, BK177, GW177, GE177, NB176_177, NB177_176⟩ := n_; clear hb hbox hg; have hnb16 := NB176_177.out; have hnc16 := NB177_176.out; obtain ⟨z17_0, z17_1, z17_2, y17_0, y17_1, y17_2⟩ := zB3 BK176; obtain ⟨z18_0, z18_1, z18_2, y18_0, y18_1, y18_2⟩ := zB3 BK177) | ((with_reducible refine gate_callee (f := 159) rfl ?_); refine goesL_ (some 9) rfl rfl Try.func159 (by kernel_rfl) rfl #[.agg #[.int .i8 a0_0, .int .i8 a0_1], .agg #[.int .i8 a1_0, .int .i8 a1_1]] rfl zm ?_; (with_reducible refine (laws_eqCell.calls k a0_0 a0_1 a1_0 a1_1 true _ A3.out).mono ?_); rintro e w19 ⟨rfl, hb⟩; refine ⟨_, rfl, ?_⟩; have n_ : _ ∧ _ ∧ _ := ⟨zk BK176 hb, zk BK177 hb, zbs hb⟩; clear BK176 BK177 HB; obtain ⟨BK176, BK177, HB⟩ := n_; (try clear hb); (try clear hb2); (try clear hk); (try clear hi); obtain ⟨z20_0, z20_1, z20_2, y20_0, y20_1, y20_2⟩ := zB3 BK176; obtain ⟨z21_0, z21_1, z21_2, y21_0, y21_1, y21_2⟩ := zB3 BK177))
 go_ret
 exact ⟨zv, zbo⟩
end Go.Proofs.Ytffnfpnajkgnaaa.PFnExactMoveMachine
