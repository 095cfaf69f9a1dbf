-- WRITTEN by xprint.py, a program of this session's. Not trusted: Lean checks it.
-- packed by pack.py
import Derived.Test.YtffnfpnajkgnaaaPFnExactJoinBoardsx0
import Derived.Test.YtffnfpnajkgnaaaTFnExactJoinBoardsa
namespace Go.Proofs.Ytffnfpnajkgnaaa.PFnExactJoinBoards
open Go.RowKit Go.Proofs.YtffnfpnajkgnaaaW.PrintWords Go.Proofs.YtffnfpnajkgnaaaW.PrintLast Go.Proofs.YtffnfpnajkgnaaaW.PrintMore Go.Proofs.YtffnfpnajkgnaaaX
attribute [local go_sem] max2_int min2_int max_two min_two max_three min_three max_four min_four   -- for this text's walks alone
set_option maxHeartbeats 8000000
set_option maxRecDepth 100000
set_option linter.unusedVariables false
set_option linter.unusedSimpArgs false

def laws_szPieceS.f (l0 : List (S88)) (a1 : Int) : Option (Int) := if (wrap64 (a1 - (l0.length : Int))) < 0 then (some (-1)) else (some (wrap64 (a1 - (l0.length : Int))))
theorem laws_szPieceS.calls (A0 : Option Addr) (c0 : Nat) (l0 : List (S88)) (a1 : Int) (r : Int) (w : World) (hr0 : Kd.C k88 w A0 l0.length l0) (hc0 : l0.length ≤ c0) (h : laws_szPieceS.f l0 a1 = some r) :
    Calls Try.prog 105 #[.slice A0 l0.length c0, .int .i64 a1] w fun e w' => e = .returned (.int .i64 r) ∧ Drawn0 w w' := by
 have HR0 := Aside0.mk hr0
 have HC0 := Aside0.mk hc0
 clear hr0 hc0
 have H : (if (wrap64 (a1 - (l0.length : Int))) < 0 then (some (-1)) else (some (wrap64 (a1 - (l0.length : Int))))) = some r := h
 clear h
 by_cases c3 : (wrap64 (a1 - (l0.length : Int))) < 0
 ·rw [if_pos c3] at H
  have c3b0 : decide ((wrap64 (a1 - (l0.length : Int))) < 0) = true := decide_eq_true c3
  clear c3
  obtain rfl := Option.some.inj H
  go_enter Try.func105, Try.ntmps105
  go_wp2
  go_ret
  exact ⟨zi, zdr⟩
 rw [if_neg c3] at H
 have c3b0 : decide ((wrap64 (a1 - (l0.length : Int))) < 0) = false := decide_eq_false c3
 clear c3
 obtain rfl := Option.some.inj H
 go_enter Try.func105, Try.ntmps105
 go_wp2
 go_ret
 exact ⟨zi, zdr⟩
def laws_szBoard.f (a0_0 : Int) (a0_1 : Int) (l0_2 : List (S88)) (a1 : Int) : Option (Int) := (laws_szPieceS.f l0_2 a1).bind fun t102 => (if t102 < 0 then (some (-1)) else (some t102))
theorem laws_szBoard.calls (a0_0 : Int) (a0_1 : Int) (A0_2 : Option Addr) (c0_2 : Nat) (l0_2 : List (S88)) (a1 : Int) (r : Int) (w : World) (hr0_2 : Kd.C k88 w A0_2 l0_2.length l0_2) (hc0_2 : l0_2.length ≤ c0_2) (h : laws_szBoard.f a0_0 a0_1 l0_2 a1 = some r) :
    Calls Try.prog 40 #[.agg #[.int .i8 a0_0, .int .i8 a0_1, .slice A0_2 l0_2.length c0_2], .int .i64 a1] w fun e w' => e = .returned (.int .i64 r) ∧ Below w.heap.size w w' := by
 have hu25 := Try.underlying25
 have HR0_2 := Aside0.mk hr0_2
 have HC0_2 := Aside0.mk hc0_2
 clear hr0_2 hc0_2
 have HB := Aside0.mk (Below.refl w.heap.size w)
 have H : ((laws_szPieceS.f l0_2 a1).bind fun t102 => (if t102 < 0 then (some (-1)) else (some t102))) = some r := h
 clear h
 replace H := zob H
 obtain ⟨t102, A30, H⟩ := H
 replace H : (if t102 < 0 then (some (-1)) else (some t102)) = some r := H
 have A3 := Aside0.mk A30
 clear A30
 by_cases c4 : t102 < 0
 ·rw [if_pos c4] at H
  have c4b0 : decide (t102 < 0) = true := decide_eq_true c4
  clear c4
  obtain rfl := Option.some.inj H
  go_enter Try.func40, Try.ntmps40
  go_wp2_with (first | ((with_reducible refine gate_dst (N := 2) rfl ?_); refine zbx 2 #[.int .i8 a0_0, .int .i8 a0_1, .slice A0_2 l0_2.length c0_2] 25 ?_; intro gb101 hg w5 hbox hb; have n_ : _ ∧ _ ∧ _ ∧ _ := ⟨zb HB hb, Aside0.mk (hbox), zg HB hg, zg HB hg⟩; clear HB; obtain ⟨HB, BK101, GW101, GE101⟩ := n_; clear hb hbox hg; obtain ⟨z6_0, z6_1, z6_2, y6_0, y6_1, y6_2⟩ := zB3 BK101) | ((with_reducible refine gate_callee (f := 105) rfl ?_); refine goesL_ (some 8) rfl rfl Try.func105 (by kernel_rfl) rfl #[.slice A0_2 l0_2.length c0_2, .int .i64 a1] rfl zm ?_; (with_reducible refine (laws_szPieceS.calls _ _ l0_2 a1 t102 _ ?side1 ?side2 A3.out).mono ?_); (case side1 => exact zcc HB HR0_2.out); (case side2 => exact HC0_2.out); rintro e w' ⟨rfl, ⟨nd, rfl⟩⟩; refine ⟨_, rfl, ?_⟩))
  go_ret
  exact ⟨zv, zbo⟩
 rw [if_neg c4] at H
 have c4b0 : decide (t102 < 0) = false := decide_eq_false c4
 clear c4
 obtain rfl := Option.some.inj H
 go_enter Try.func40, Try.ntmps40
 go_wp2_with (first | ((with_reducible refine gate_dst (N := 2) rfl ?_); refine zbx 2 #[.int .i8 a0_0, .int .i8 a0_1, .slice A0_2 l0_2.length c0_2] 25 ?_; intro gb101 hg w7 hbox hb; have n_ : _ ∧ _ ∧ _ ∧ _ := ⟨zb HB hb, Aside0.mk (hbox), zg HB hg, zg HB hg⟩; clear HB; obtain ⟨HB, BK101, GW101, GE101⟩ := n_; clear hb hbox hg; obtain ⟨z8_0, z8_1, z8_2, y8_0, y8_1, y8_2⟩ := zB3 BK101) | ((with_reducible refine gate_callee (f := 105) rfl ?_); refine goesL_ (some 8) rfl rfl Try.func105 (by kernel_rfl) rfl #[.slice A0_2 l0_2.length c0_2, .int .i64 a1] rfl zm ?_; (with_reducible refine (laws_szPieceS.calls _ _ l0_2 a1 t102 _ ?side1 ?side2 A3.out).mono ?_); (case side1 => exact zcc HB HR0_2.out); (case side2 => exact HC0_2.out); rintro e w' ⟨rfl, ⟨nd, rfl⟩⟩; refine ⟨_, rfl, ?_⟩))
 go_ret
 exact ⟨zv, zbo⟩
def laws_toCell.l0 : Nat → Int → Int → Int → Int → Int → Option (Int × Int)
  | 0, _, _, _, _, _ => none
  | k + 1, x4, x104000, x104001, x106000, x106001 => if x4 < 2 then (if x4 = 0 then (laws_toCell.l0 k (wrap64 (x4 + 1)) x104000 x104001 x104000 x106001) else (if x4 = 1 then (laws_toCell.l0 k (wrap64 (x4 + 1)) x104000 x104001 x106000 x104001) else (none))) else (some (x106000, x106001))
def laws_toCell.f (k : Nat) (a0_0 : Int) (a0_1 : Int) : Option (Int × Int) := laws_toCell.l0 k 0 a0_0 a0_1 0 0
theorem laws_toCell.mono_l : ∀ k, (∀ y0 y1 y2 y3 y4, LeO (laws_toCell.l0 k y0 y1 y2 y3 y4) (laws_toCell.l0 (k + 1) y0 y1 y2 y3 y4))
  | 0 => fun _ _ _ _ _ r h => by simp [laws_toCell.l0] at h
  | k + 1 => by
    have ih0 := laws_toCell.mono_l k
    · intro y0 y1 y2 y3 y4
      unfold laws_toCell.l0
      repeat' first | (with_reducible first | apply ih0 | exact LeO.refl _ | exact LeO.none _ | refine LeO.ite ?_ ?_ | refine LeO.bind ?_ (fun _ => ?_)) | apply ih0 | exact LeO.none _ | refine LeO.ite ?_ ?_ | refine LeO.bind ?_ (fun _ => ?_)
theorem laws_toCell.mono : ∀ a0 a1 k, LeO (laws_toCell.f k a0 a1) (laws_toCell.f (k + 1) a0 a1) := by
 intro a0 a1 k
 have ih0 := laws_toCell.mono_l k
 unfold laws_toCell.f
 repeat' first | (with_reducible first | apply ih0 | exact LeO.refl _ | exact LeO.none _ | refine LeO.ite ?_ ?_ | refine LeO.bind ?_ (fun _ => ?_)) | apply ih0 | exact LeO.none _ | refine LeO.ite ?_ ?_ | refine LeO.bind ?_ (fun _ => ?_)
theorem laws_toCell.calls (k : Nat) (a0_0 : Int) (a0_1 : Int) (r1 : Int) (r2 : Int) (w : World) (h : laws_toCell.f k a0_0 a0_1 = some (r1, r2)) :
    Calls Try.prog 53 #[.agg #[.int .i8 a0_0, .int .i8 a0_1]] w fun e w' => e = .returned (.agg #[.int .i8 r1, .int .i8 r2]) ∧ Below w.heap.size w w' := by
 have hu71 := Try.underlying71
 have hu74 := Try.underlying74
 have HB := Aside0.mk (Below.refl w.heap.size w)
 have H : (laws_toCell.l0 k 0 a0_0 a0_1 0 0) = some (r1, r2) := h
 clear h
 have H' := Aside0.mk H
 clear H
 go_enter Try.func53, Try.ntmps53
 go_wp2_with (first | ((with_reducible refine gate_dst (N := 1) rfl ?_); refine zbx 1 #[.int .i8 a0_0, .int .i8 a0_1] 71 ?_; intro gb103 hg w2 hbox hb; have n_ : _ ∧ _ ∧ _ ∧ _ := ⟨zb HB hb, Aside0.mk (hbox), zg HB hg, zg HB hg⟩; clear HB; obtain ⟨HB, BK103, GW103, GE103⟩ := n_; clear hb hbox hg) | ((with_reducible refine gate_dst (N := 2) rfl ?_); refine zbx 2 #[.int .i8 0, .int .i8 0] 74 ?_; intro gb104 hg w3 hbox hb; have n_ : _ ∧ _ ∧ _ ∧ _ ∧ _ ∧ _ ∧ _ := ⟨zk BK103 hb, zbs hb, Aside0.mk (hbox), zg HB hg, zg HB hg, zn1 BK103 hg, zn2 BK103 hg⟩; clear BK103 HB; obtain ⟨BK103, HB, BK104, GW104, GE104, NB103_104, NB104_103⟩ := n_; clear hb hbox hg) | ((with_reducible refine gate_dst (N := 3) rfl ?_); refine zbx 3 #[.int .i8 0, .int .i8 0] 74 ?_; intro gb105 hg w4 hbox hb; have n_ : _ ∧ _ ∧ _ ∧ _ ∧ _ ∧ _ ∧ _ ∧ _ ∧ _ ∧ _ := ⟨zk BK103 hb, zk BK104 hb, zbs hb, Aside0.mk (hbox), zg HB hg, zg HB hg, zn1 BK103 hg, zn2 BK103 hg, zn1 BK104 hg, zn2 BK104 hg⟩; clear BK103 BK104 HB; obtain ⟨BK103, BK104, HB, BK105, GW105, GE105, NB103_105, NB105_103, NB104_105, NB105_104⟩ := n_; clear hb hbox hg))
 go_loopg [4] k (fun kq v4 w' => ∃ (x4_1 : Int) (x106000_1 : Int) (x106001_1 : Int), v4 = .int .i64 x4_1 ∧ Aside0 (laws_toCell.l0 kq x4_1 a0_0 a0_1 x106000_1 x106001_1 = some (r1, r2)) ∧ Aside0 (kq ≤ k) ∧ Aside0 (w'.heap[gb103]? = some (.cells #[.int .i8 a0_0, .int .i8 a0_1] 71 (0, 0))) ∧ Aside0 (w'.heap[gb104]? = some (.cells #[.int .i8 0, .int .i8 0] 74 (0, 0))) ∧ Aside0 (w'.heap[gb105]? = some (.cells #[.int .i8 x106000_1, .int .i8 x106001_1] 74 (0, 0))) ∧ Aside0 (Below w.heap.size w w'))
 case atStart => exact ⟨(0), (0), (0), zi, H', ⟨Nat.le_refl _⟩, zh BK103, zh BK104, zh BK105, zba⟩
 clear H'
 try clear p2
 obtain ⟨x4_1, x106000_1, x106001_1, rfl, HA, HK1, BK103, BK104, BK105, HB⟩ := hrel
 cases gk with
 | zero => exact absurd HA.out (by simp [laws_toCell.l0])
 | succ k1 => ?_
 have H := HA.out
 clear HA
 simp only [laws_toCell.l0] at H
 by_cases c5 : x4_1 < 2
 rotate_left
 ·rw [if_neg c5] at H
  have c5b0 : decide (x4_1 < 2) = false := decide_eq_false c5
  clear c5
  simp only [Option.some.injEq, Prod.mk.injEq] at H
  obtain ⟨rfl, rfl⟩ := H
  have hnb22 := NB105_103.out
  have hnc22 := NB103_105.out
  have hnb23 := NB105_104.out
  have hnc23 := NB104_105.out
  obtain ⟨z24_0, z24_1, y24_0, y24_1⟩ := zB2 BK105
  have hnb25 := NB104_103.out
  have hnc25 := NB103_104.out
  obtain ⟨z26_0, z26_1, y26_0, y26_1⟩ := zB2 BK104
  go_wp2
  refine bodyPost_ret (results_cell_row rfl _ _ gb104 74 #[.int .i8 x106000_1, .int .i8 x106001_1] (0, 0) _ rfl (zp BK104) Try.underlying74 rfl (by kernel_rfl)) rfl ?_
  exact ⟨zv, zbo⟩
 rw [if_pos c5] at H
 have c5b0 : decide (x4_1 < 2) = true := decide_eq_true c5
 clear c5
 by_cases c6 : x4_1 = 0
 ·rw [if_pos c6] at H
  have Ac6 : Aside0 (x4_1 = 0) := ⟨c6⟩
  clear c6
  have ar7e : x4_1 = 0 := by first | exact (show Aside0 (x4_1 = 0) by assumption).out | exact beq_iff_eq.mp (by assumption) | omega
  have ar7n : (x4_1).toNat = 0 := by rw [ar7e]; rfl
  have ar7l : decide (0 ≤ x4_1) = true := decide_eq_true (by omega)
  have ar7L := eq_true (of_decide_eq_true ar7l)
  have ar7h : decide (x4_1 < 2) = true := decide_eq_true (by omega)
  have ar7H := eq_true (of_decide_eq_true ar7h)
  clear ar7e
  have ar8e : x4_1 = 0 := by first | exact (show Aside0 (x4_1 = 0) by assumption).out | exact beq_iff_eq.mp (by assumption) | omega
  have ar8n : (x4_1).toNat = 0 := by rw [ar8e]; rfl
  have ar8l : decide (0 ≤ x4_1) = true := decide_eq_true (by omega)
  have ar8L := eq_true (of_decide_eq_true ar8l)
  have ar8h : decide (x4_1 < 2) = true := decide_eq_true (by omega)
  have ar8H := eq_true (of_decide_eq_true ar8h)
  clear ar8e
  have H' := Aside0.mk H
  clear H
  have hnb9 := NB103_104.out
  have hnc9 := NB104_103.out
  have hnb10 := NB103_105.out
  have hnc10 := NB105_103.out
  obtain ⟨z11_0, z11_1, y11_0, y11_1⟩ := zB2 BK103
  have hnb12 := NB105_104.out
  have hnc12 := NB104_105.out
  obtain ⟨z13_0, z13_1, y13_0, y13_1⟩ := zB2 BK105
  go_wp2
  go_roundg k1
  case measure => have := HK1.out; omega
  case rel => exact ⟨(wrap64 (x4_1 + 1)), (a0_0), (x106001_1), zi, H', ⟨by have := HK1.out; omega⟩, zf BK103 NB103_105, zf BK104 NB104_105, ⟨zp BK105⟩, zba⟩
 rw [if_neg c6] at H
 clear c6
 by_cases c14 : x4_1 = 1
 rotate_left
 ·rw [if_neg c14] at H
  exact absurd H (by simp)
 rw [if_pos c14] at H
 have Ac14 : Aside0 (x4_1 = 1) := ⟨c14⟩
 clear c14
 have ar15e : x4_1 = 1 := by first | exact (show Aside0 (x4_1 = 1) by assumption).out | exact beq_iff_eq.mp (by assumption) | omega
 have ar15n : (x4_1).toNat = 1 := by rw [ar15e]; rfl
 have ar15l : decide (0 ≤ x4_1) = true := decide_eq_true (by omega)
 have ar15L := eq_true (of_decide_eq_true ar15l)
 have ar15h : decide (x4_1 < 2) = true := decide_eq_true (by omega)
 have ar15H := eq_true (of_decide_eq_true ar15h)
 clear ar15e
 have ar16e : x4_1 = 1 := by first | exact (show Aside0 (x4_1 = 1) by assumption).out | exact beq_iff_eq.mp (by assumption) | omega
 have ar16n : (x4_1).toNat = 1 := by rw [ar16e]; rfl
 have ar16l : decide (0 ≤ x4_1) = true := decide_eq_true (by omega)
 have ar16L := eq_true (of_decide_eq_true ar16l)
 have ar16h : decide (x4_1 < 2) = true := decide_eq_true (by omega)
 have ar16H := eq_true (of_decide_eq_true ar16h)
 clear ar16e
 have H' := Aside0.mk H
 clear H
 have hnb17 := NB103_104.out
 have hnc17 := NB104_103.out
 have hnb18 := NB103_105.out
 have hnc18 := NB105_103.out
 obtain ⟨z19_0, z19_1, y19_0, y19_1⟩ := zB2 BK103
 have hnb20 := NB105_104.out
 have hnc20 := NB104_105.out
 obtain ⟨z21_0, z21_1, y21_0, y21_1⟩ := zB2 BK105
 go_wp2
 go_roundg k1
 case measure => have := HK1.out; omega
 case rel => exact ⟨(wrap64 (x4_1 + 1)), (x106000_1), (a0_1), zi, H', ⟨by have := HK1.out; omega⟩, zf BK103 NB103_105, zf BK104 NB104_105, ⟨zp BK105⟩, zba⟩
def laws_toPiece.f (k : Nat) (a0_0 : Int) (a0_1 : Int) (a0_2 : Int) (a0_3 : Int) (a0_4 : Int) : Option (Int × Int × Int × Int × Int) := (laws_toCell.f k a0_0 a0_1).bind fun bt109 => (some (bt109.1, bt109.2, a0_2, a0_3, a0_4))
theorem laws_toPiece.mono : ∀ a0 a1 a2 a3 a4 k, LeO (laws_toPiece.f k a0 a1 a2 a3 a4) (laws_toPiece.f (k + 1) a0 a1 a2 a3 a4) := by
 intro a0 a1 a2 a3 a4 k
 unfold laws_toPiece.f
 repeat' first | (with_reducible first | apply laws_toCell.mono | exact LeO.refl _ | exact LeO.none _ | refine LeO.ite ?_ ?_ | refine LeO.bind ?_ (fun _ => ?_)) | apply laws_toCell.mono | exact LeO.none _ | refine LeO.ite ?_ ?_ | refine LeO.bind ?_ (fun _ => ?_)
theorem laws_toPiece.calls (k : Nat) (a0_0 : Int) (a0_1 : Int) (a0_2 : Int) (a0_3 : Int) (a0_4 : Int) (r1 : Int) (r2 : Int) (r3 : Int) (r4 : Int) (r5 : Int) (w : World) (h : laws_toPiece.f k a0_0 a0_1 a0_2 a0_3 a0_4 = some (r1, r2, r3, r4, r5)) :
    Calls Try.prog 65 #[.agg #[.int .i8 a0_0, .int .i8 a0_1, .int .i8 a0_2, .int .i8 a0_3, .int .i8 a0_4]] w fun e w' => e = .returned (.agg #[.int .i8 r1, .int .i8 r2, .int .i8 r3, .int .i8 r4, .int .i8 r5]) ∧ Below w.heap.size w w' := by
 have hu88 := Try.underlying88
 have hu91 := Try.underlying91
 have hu71 := Try.underlying71
 have hu74 := Try.underlying74
 have HB := Aside0.mk (Below.refl w.heap.size w)
 have H : ((laws_toCell.f k a0_0 a0_1).bind fun bt109 => (some (bt109.1, bt109.2, a0_2, a0_3, a0_4))) = some (r1, r2, r3, r4, r5) := h
 clear h
 replace H := zob H
 obtain ⟨⟨t109, t110⟩, A20, H⟩ := H
 replace H : (some (t109, t110, a0_2, a0_3, a0_4)) = some (r1, r2, r3, r4, r5) := H
 have A2 := Aside0.mk A20
 clear A20
 simp only [Option.some.injEq, Prod.mk.injEq] at H
 obtain ⟨rfl, rfl, rfl, rfl, rfl⟩ := H
 go_enter Try.func65, Try.ntmps65
 go_wp2_with (first | ((with_reducible refine gate_dst (N := 1) rfl ?_); refine zbx 1 #[.int .i8 a0_0, .int .i8 a0_1, .int .i8 a0_2, .int .i8 a0_3, .int .i8 a0_4] 88 ?_; intro gb106 hg w3 hbox hb; have n_ : _ ∧ _ ∧ _ ∧ _ := ⟨zb HB hb, Aside0.mk (hbox), zg HB hg, zg HB hg⟩; clear HB; obtain ⟨HB, BK106, GW106, GE106⟩ := n_; clear hb hbox hg) | ((with_reducible refine gate_dst (N := 2) rfl ?_); refine zbx 2 #[.int .i8 0, .int .i8 0, .int .i8 0, .int .i8 0, .int .i8 0] 91 ?_; intro gb107 hg w4 hbox hb; have n_ : _ ∧ _ ∧ _ ∧ _ ∧ _ ∧ _ ∧ _ := ⟨zk BK106 hb, zbs hb, Aside0.mk (hbox), zg HB hg, zg HB hg, zn1 BK106 hg, zn2 BK106 hg⟩; clear BK106 HB; obtain ⟨BK106, HB, BK107, GW107, GE107, NB106_107, NB107_106⟩ := n_; clear hb hbox hg) | ((with_reducible refine gate_dst (N := 3) rfl ?_); refine zbx 3 #[.int .i8 0, .int .i8 0, .int .i8 0, .int .i8 0, .int .i8 0] 91 ?_; intro gb108 hg w5 hbox hb; have n_ : _ ∧ _ ∧ _ ∧ _ ∧ _ ∧ _ ∧ _ ∧ _ ∧ _ ∧ _ := ⟨zk BK106 hb, zk BK107 hb, zbs hb, Aside0.mk (hbox), zg HB hg, zg HB hg, zn1 BK106 hg, zn2 BK106 hg, zn1 BK107 hg, zn2 BK107 hg⟩; clear BK106 BK107 HB; obtain ⟨BK106, BK107, HB, BK108, GW108, GE108, NB106_108, NB108_106, NB107_108, NB108_107⟩ := n_; clear hb hbox hg; have hnb6 := NB106_107.out; have hnc6 := NB107_106.out; have hnb7 := NB106_108.out; have hnc7 := NB108_106.out; obtain ⟨z8_0, z8_1, z8_2, z8_3, z8_4, y8_0, y8_1, y8_2, y8_3, y8_4⟩ := zB5 BK106) | ((with_reducible refine gate_callee (f := 53) rfl ?_); refine goesL_ (some 6) rfl rfl Try.func53 (by kernel_rfl) rfl #[.agg #[.int .i8 a0_0, .int .i8 a0_1]] rfl zm ?_; (with_reducible refine (laws_toCell.calls k a0_0 a0_1 t109 t110 _ A2.out).mono ?_); rintro e w9 ⟨rfl, hb⟩; refine ⟨_, rfl, ?_⟩; have n_ : _ ∧ _ ∧ _ ∧ _ := ⟨zk BK106 hb, zk BK107 hb, zk BK108 hb, zbs hb⟩; clear BK106 BK107 BK108 HB; obtain ⟨BK106, BK107, BK108, HB⟩ := n_; (try clear hb); (try clear hb2); (try clear hk); (try clear hi); have hnb10 := NB108_107.out; have hnc10 := NB107_108.out; obtain ⟨z11_0, z11_1, z11_2, z11_3, z11_4, y11_0, y11_1, y11_2, y11_3, y11_4⟩ := zB5 BK108; obtain ⟨z12_0, z12_1, z12_2, z12_3, z12_4, y12_0, y12_1, y12_2, y12_3, y12_4⟩ := zB5 BK106; obtain ⟨z13_0, z13_1, z13_2, z13_3, z13_4, y13_0, y13_1, y13_2, y13_3, y13_4⟩ := zB5 BK107))
 refine bodyPost_ret (results_cell_row rfl _ _ gb107 91 #[.int .i8 t109, .int .i8 t110, .int .i8 a0_2, .int .i8 a0_3, .int .i8 a0_4] (0, 0) _ rfl (by (with_reducible repeat (first | refine blk_drewN ?_ _ | refine blk_drew ?_ | refine blk_alloc ?_ _)); refine blk_put (cs := #[.int .i8 t109, .int .i8 t110, .int .i8 a0_2, .int .i8 a0_3, .int .i8 0]) ?_ 4 _ rfl; (with_reducible repeat (first | refine blk_drewN ?_ _ | refine blk_drew ?_ | refine blk_alloc ?_ _)); refine blk_put (cs := #[.int .i8 t109, .int .i8 t110, .int .i8 a0_2, .int .i8 0, .int .i8 0]) ?_ 3 _ rfl; (with_reducible repeat (first | refine blk_drewN ?_ _ | refine blk_drew ?_ | refine blk_alloc ?_ _)); refine blk_put (cs := #[.int .i8 t109, .int .i8 t110, .int .i8 0, .int .i8 0, .int .i8 0]) ?_ 2 _ rfl; (with_reducible repeat (first | refine blk_drewN ?_ _ | refine blk_drew ?_ | refine blk_alloc ?_ _)); refine blk_put (cs := #[.int .i8 t109, .int .i8 0, .int .i8 0, .int .i8 0, .int .i8 0]) ?_ 1 _ rfl; (with_reducible repeat (first | refine blk_drewN ?_ _ | refine blk_drew ?_ | refine blk_alloc ?_ _)); refine blk_put (cs := #[.int .i8 0, .int .i8 0, .int .i8 0, .int .i8 0, .int .i8 0]) ?_ 0 _ rfl; (with_reducible repeat (first | refine blk_drewN ?_ _ | refine blk_drew ?_ | refine blk_alloc ?_ _)); refine blk_far ?_ NB107_108.out _; (with_reducible repeat (first | refine blk_drewN ?_ _ | refine blk_drew ?_ | refine blk_alloc ?_ _)); refine blk_far ?_ NB107_108.out _; (with_reducible repeat (first | refine blk_drewN ?_ _ | refine blk_drew ?_ | refine blk_alloc ?_ _)); refine blk_far ?_ NB107_108.out _; (with_reducible repeat (first | refine blk_drewN ?_ _ | refine blk_drew ?_ | refine blk_alloc ?_ _)); refine blk_far ?_ NB107_108.out _; (with_reducible repeat (first | refine blk_drewN ?_ _ | refine blk_drew ?_ | refine blk_alloc ?_ _)); refine blk_far ?_ NB107_108.out _; (with_reducible repeat (first | refine blk_drewN ?_ _ | refine blk_drew ?_ | refine blk_alloc ?_ _)); exact BK107.out) Try.underlying91 rfl (by kernel_rfl)) rfl ?_
 exact ⟨zv, zbo⟩
def laws_toPieceS.l0 : Nat → List (S88) → List (S91) → Int → Option ((List (S91)))
  | 0, _, _, _ => none
  | k + 1, x0, x3, x4 => if x4 < (x0.length : Int) then (if 0 ≤ x4 then ((laws_toPiece.f k ((rd_T88 x0 x4).f0.f0) ((rd_T88 x0 x4).f0.f1) ((rd_T88 x0 x4).f1) ((rd_T88 x0 x4).f2) ((rd_T88 x0 x4).f3)).bind fun bt115 => (if x4 < (x3.length : Int) then (laws_toPieceS.l0 k x0 (x3.set (x4 : Int).toNat (⟨(⟨bt115.1, bt115.2.1⟩ : S74), bt115.2.2.1, bt115.2.2.2.1, bt115.2.2.2.2⟩ : S91)) (wrap64 (x4 + 1))) else (none))) else (none)) else (some x3)
def laws_toPieceS.f (k : Nat) (l0 : List (S88)) : Option ((List (S91))) := if 0 ≤ (l0.length : Int) then (if ((l0.length : Int) : Int).toNat ≤ 56294995342131 then (laws_toPieceS.l0 k l0 (List.replicate ((l0.length : Int) : Int).toNat z91) 0) else (none)) else (none)
theorem laws_toPieceS.mono_l : ∀ k, (∀ y0 y1 y2, LeO (laws_toPieceS.l0 k y0 y1 y2) (laws_toPieceS.l0 (k + 1) y0 y1 y2))
  | 0 => fun _ _ _ r h => by simp [laws_toPieceS.l0] at h
  | k + 1 => by
    have ih0 := laws_toPieceS.mono_l k
    · intro y0 y1 y2
      unfold laws_toPieceS.l0
      repeat' first | (with_reducible first | apply ih0 | apply laws_toPiece.mono | exact LeO.refl _ | exact LeO.none _ | refine LeO.ite ?_ ?_ | refine LeO.bind ?_ (fun _ => ?_)) | apply ih0 | apply laws_toPiece.mono | exact LeO.none _ | refine LeO.ite ?_ ?_ | refine LeO.bind ?_ (fun _ => ?_)
theorem laws_toPieceS.mono : ∀ a0 k, LeO (laws_toPieceS.f k a0) (laws_toPieceS.f (k + 1) a0) := by
 intro a0 k
 have ih0 := laws_toPieceS.mono_l k
 unfold laws_toPieceS.f
 repeat' first | (with_reducible first | apply ih0 | apply laws_toPiece.mono | exact LeO.refl _ | exact LeO.none _ | refine LeO.ite ?_ ?_ | refine LeO.bind ?_ (fun _ => ?_)) | apply ih0 | apply laws_toPiece.mono | exact LeO.none _ | refine LeO.ite ?_ ?_ | refine LeO.bind ?_ (fun _ => ?_)
theorem laws_toPieceS.calls (k : Nat) (A0 : Option Addr) (c0 : Nat) (l0 : List (S88)) (r : List (S91)) (w : World) (hr0 : Kd.C k88 w A0 l0.length l0) (hc0 : l0.length ≤ c0) (h : laws_toPieceS.f k l0 = some r) :
    Calls Try.prog 107 #[.slice A0 l0.length c0] w fun e w' => ∃ v0_ : Value, e = .returned (v0_) ∧ Kd.R k91 91 w' w.heap.size (fun _ => True) v0_ r ∧ Below w.heap.size w w' := by
 have hu88 := Try.underlying88
 have hu91 := Try.underlying91
 have HR0 := Aside0.mk hr0
 have HC0 := Aside0.mk hc0
 clear hr0 hc0
 have HB := Aside0.mk (Below.refl w.heap.size w)
 have H : (if 0 ≤ (l0.length : Int) then (if ((l0.length : Int) : Int).toNat ≤ 56294995342131 then (laws_toPieceS.l0 k l0 (List.replicate ((l0.length : Int) : Int).toNat z91) 0) else (none)) else (none)) = some r := h
 clear h
 by_cases c2 : 0 ≤ (l0.length : Int)
 rotate_left
 ·rw [if_neg c2] at H
  exact absurd H (by simp)
 rw [if_pos c2] at H
 have c2b0 := eq_true c2
 have c2b1 : decide (0 ≤ (l0.length : Int)) = true := decide_eq_true c2
 clear c2
 by_cases c3 : ((l0.length : Int) : Int).toNat ≤ 56294995342131
 rotate_left
 ·rw [if_neg c3] at H
  exact absurd H (by simp)
 rw [if_pos c3] at H
 have c3b0 := eq_true c3
 have c3b1 : decide (((l0.length : Int) : Int).toNat ≤ 56294995342131) = true := decide_eq_true c3
 clear c3
 obtain ⟨y111, hy111⟩ : ∃ y_ : List (S91), y_ = (List.replicate ((l0.length : Int) : Int).toNat z91) := ⟨_, rfl⟩
 replace H : (laws_toPieceS.l0 k l0 y111 0) = some r := by first | (rw [hy111]; with_reducible exact H) | (have H2_ := (Option.bind_some _ _).symm.trans H; rw [hy111]; with_reducible exact H2_) | (have H2_ := (Option.bind_some _ _).symm.trans H; with_reducible exact H2_) | with_reducible exact H | (rw [hy111]; exact H) | exact H
 have Ny111 := Aside0.mk hy111
 clear hy111
 have H' := Aside0.mk H
 clear H
 go_enter Try.func107, Try.ntmps107
 go_wp2_with (first | ((with_reducible refine gate_dst (N := 7) rfl ?_); refine Kd.R_make k91 _ 91 rfl (N := 7) rfl 35 _ _ rfl (l0.length : Int) rfl rfl Try.underlying35 (.agg #[(.int .i8 0), (.int .i8 0), (.int .i8 0), (.int .i8 0), (.int .i8 0)]) 5 info91 rfl (by decide) (by omega) z91 (ok := fun _ => True) (okp := fun _ => True) (k91_mkM _ _ _ z91 ) (fun _ hk => hk) trivial (of_decide_eq_true zA) (Nat.le_trans (Nat.mul_le_mul_right _ (of_decide_eq_true zA : (l0.length : Int).toNat ≤ 56294995342131)) (by omega)) (Below.refl _ _) (Nat.le_refl _) ?_; intro v112 w4 ho5 hb hg_ hnew_; clear hg_ hnew_; (first | rw [← Ny111.out] at ho5 | (simp only [Int.reduceToNat] at ho5; rw [← Ny111.out] at ho5)); have n_ : _ ∧ _ := ⟨Aside0.mk (Kd.R_lower ho5 (zz HB)), zb HB hb⟩; clear HB; obtain ⟨HO113, HB⟩ := n_; clear hb ho5))
 go_loopg [4] k (fun kq v4 w' => ∃ (x3_1 : List (S91)) (x4_1 : Int), v4 = .int .i64 x4_1 ∧ Aside0 (laws_toPieceS.l0 kq l0 x3_1 x4_1 = some r) ∧ Aside0 (kq ≤ k) ∧ Aside0 (Kd.R k91 91 w' w.heap.size (fun _ => True) v112 x3_1) ∧ Aside0 (Below w.heap.size w w'))
 case atStart => exact ⟨(y111), (0), zi, H', ⟨Nat.le_refl _⟩, ze HO113, zl HB⟩
 clear H'
 try clear c1
 try clear c2
 try clear c2b0
 try clear c2b1
 try clear p2
 try clear c3
 try clear c3b0
 try clear c3b1
 obtain ⟨x3_1, x4_1, rfl, HA, HK1, HO_3, HB⟩ := hrel
 cases gk with
 | zero => exact absurd HA.out (by simp [laws_toPieceS.l0])
 | succ k1 => ?_
 have H := HA.out
 clear HA
 simp only [laws_toPieceS.l0] at H
 by_cases c6 : x4_1 < (l0.length : Int)
 rotate_left
 ·rw [if_neg c6] at H
  have c6b0 : decide (x4_1 < (l0.length : Int)) = false := decide_eq_false c6
  clear c6
  obtain rfl := Option.some.inj H
  go_wp2
  go_ret
  exact ⟨_, zv, by (with_reducible repeat (first | apply Kd.R_alloc | apply Kd.R_drewN | apply Kd.R_drew)); exact HO_3.out, zbo⟩
 rw [if_pos c6] at H
 have c6b0 : decide (x4_1 < (l0.length : Int)) = true := decide_eq_true c6
 clear c6
 by_cases c7 : 0 ≤ x4_1
 rotate_left
 ·rw [if_neg c7] at H
  exact absurd H (by simp)
 rw [if_pos c7] at H
 have c7b0 : decide (0 ≤ x4_1) = true := decide_eq_true c7
 clear c7
 replace H := zob H
 obtain ⟨⟨t115, t116, t117, t118, t119⟩, A80, H⟩ := H
 replace H : (if x4_1 < (x3_1.length : Int) then (laws_toPieceS.l0 k1 l0 (x3_1.set (x4_1 : Int).toNat (⟨(⟨t115, t116⟩ : S74), t117, t118, t119⟩ : S91)) (wrap64 (x4_1 + 1))) else (none)) = some r := H
 have A8 := Aside0.mk A80
 clear A80
 by_cases c9 : x4_1 < (x3_1.length : Int)
 rotate_left
 ·rw [if_neg c9] at H
  exact absurd H (by simp)
 rw [if_pos c9] at H
 have c9b0 : decide (x4_1 < (x3_1.length : Int)) = true := decide_eq_true c9
 clear c9
 obtain ⟨y120, hy120⟩ : ∃ y_ : List (S91), y_ = (x3_1.set (x4_1 : Int).toNat (⟨(⟨t115, t116⟩ : S74), t117, t118, t119⟩ : S91)) := ⟨_, rfl⟩
 replace H : (laws_toPieceS.l0 k1 l0 y120 (wrap64 (x4_1 + 1))) = some r := by first | (rw [hy120]; with_reducible exact H) | (have H2_ := (Option.bind_some _ _).symm.trans H; rw [hy120]; with_reducible exact H2_) | (have H2_ := (Option.bind_some _ _).symm.trans H; with_reducible exact H2_) | with_reducible exact H | (rw [hy120]; exact H) | exact H
 have Ny120 := Aside0.mk hy120
 clear hy120
 have H' := Aside0.mk H
 clear H
 have p114 : 0 ≤ (x4_1 : Int) := of_decide_eq_true zA
 have q114 : x4_1 < (l0.length : Int) := of_decide_eq_true zA
 obtain ⟨ad114, e114, hx114_0, hx114_1, hx114_2, hx114_3, hx114_4⟩ := at_T88 HR0.out x4_1 p114 q114
 cases e114
 replace hx114_0 := zc HB hx114_0
 replace hx114_1 := zc HB hx114_1
 replace hx114_2 := zc HB hx114_2
 replace hx114_3 := zc HB hx114_3
 replace hx114_4 := zc HB hx114_4
 replace p114 := eq_true p114
 replace q114 := eq_true q114
 go_wp2_with (first | ((with_reducible refine gate_callee (f := 65) rfl ?_); refine goesL_ (some 20) rfl rfl Try.func65 (by kernel_rfl) rfl #[.agg #[.int .i8 ((rd_T88 l0 x4_1).f0.f0), .int .i8 ((rd_T88 l0 x4_1).f0.f1), .int .i8 ((rd_T88 l0 x4_1).f1), .int .i8 ((rd_T88 l0 x4_1).f2), .int .i8 ((rd_T88 l0 x4_1).f3)]] rfl zm ?_; (with_reducible refine (laws_toPiece.calls k1 ((rd_T88 l0 x4_1).f0.f0) ((rd_T88 l0 x4_1).f0.f1) ((rd_T88 l0 x4_1).f1) ((rd_T88 l0 x4_1).f2) ((rd_T88 l0 x4_1).f3) t115 t116 t117 t118 t119 _ A8.out).mono ?_); rintro e w11 ⟨rfl, hb⟩; refine ⟨_, rfl, ?_⟩; have n_ : _ ∧ _ := ⟨zr HO_3 hb, zb HB hb⟩; clear HO_3 HB; obtain ⟨HO_3, HB⟩ := n_; (try clear hb); (try clear hb2); (try clear hk); (try clear hi); have p10 : 0 ≤ (x4_1 : Int) := of_decide_eq_true zA; have q10 : (x4_1 : Int) < ((x3_1.length : Int) : Int) := of_decide_eq_true zA; obtain ⟨go10, co10, eo10, gb10, gl10, cl10, HG10⟩ := Kd.R_form HO_3.out (by omega); (first | cases eo10 | (injection eo10 with ea_ en_ ec_; (first | subst ea_ | (injection ea_ with ea_; subst ea_)); subst ec_; clear en_)); have GB10 := Aside0.mk gb10; have GG10 := Aside0.mk HG10; clear gb10 gl10 HG10; obtain ⟨ce10, hcl10, hM10, hcc10, hfr10⟩ := Kd.R_elem HO_3.out z91 (x4_1 : Int) p10 q10; obtain rfl := k91_openM hM10; have hx10_0 : w11.cell? ⟨go10, (x4_1 : Int).toNat * 5, none⟩ = some (.int .i8 ((rd_T91 x3_1 x4_1).f0.f0)) := hcc10 0 _ rfl; have hx10_1 : w11.cell? ⟨go10, (x4_1 : Int).toNat * 5 + 1, none⟩ = some (.int .i8 ((rd_T91 x3_1 x4_1).f0.f1)) := hcc10 1 _ rfl; have hx10_2 : w11.cell? ⟨go10, (x4_1 : Int).toNat * 5 + 2, none⟩ = some (.int .i8 ((rd_T91 x3_1 x4_1).f1)) := hcc10 2 _ rfl; have hx10_3 : w11.cell? ⟨go10, (x4_1 : Int).toNat * 5 + 3, none⟩ = some (.int .i8 ((rd_T91 x3_1 x4_1).f2)) := hcc10 3 _ rfl; have hx10_4 : w11.cell? ⟨go10, (x4_1 : Int).toNat * 5 + 4, none⟩ = some (.int .i8 ((rd_T91 x3_1 x4_1).f3)) := hcc10 4 _ rfl; have hf10_0 : w11.frozen? ⟨go10, (x4_1 : Int).toNat * 5, none⟩ = false := hfr10 0; have hf10_1 : w11.frozen? ⟨go10, (x4_1 : Int).toNat * 5 + 1, none⟩ = false := hfr10 1; have hf10_2 : w11.frozen? ⟨go10, (x4_1 : Int).toNat * 5 + 2, none⟩ = false := hfr10 2; have hf10_3 : w11.frozen? ⟨go10, (x4_1 : Int).toNat * 5 + 3, none⟩ = false := hfr10 3; have hf10_4 : w11.frozen? ⟨go10, (x4_1 : Int).toNat * 5 + 4, none⟩ = false := hfr10 4; clear hcl10 hcc10 hfr10 hM10; replace p10 := eq_true p10; replace q10 := eq_true q10; have HX12 := Aside0.mk (show Kd.R k91 91 w11 w.heap.size (fun _ => True) (.slice (some ⟨go10, 0, none⟩) x3_1.length co10) x3_1 from (ze HO_3).out); obtain ⟨ce12, hcl12, hM12, hcc12, hfr12⟩ := Kd.R_elem HX12.out z91 (x4_1 : Int) (of_decide_eq_true zA) (zlt (x4_1 : Int) (x3_1.length : Int) (Kd.R_reads' HO_3.out).1); obtain rfl := k91_openM hM12; have HP12 := Kd.R_seg HX12.out (x4_1 : Int) (of_decide_eq_true zA) (zlt (x4_1 : Int) (x3_1.length : Int) (Kd.R_reads' HO_3.out).1) (seg := [.int .i8 t115, .int .i8 t116, .int .i8 t117, .int .i8 t118, .int .i8 t119]) (j := 0) hcl12 hcc12 (show 5 ≤ 5 from by decide) (x' := (⟨(⟨t115, t116⟩ : S74), t117, t118, t119⟩ : S91)) (k91_mkM _ _ _ (⟨(⟨t115, t116⟩ : S74), t117, t118, t119⟩ : S91) ) (fun _ hk => hk); have hx12_0 := hcc12 0 _ rfl; (try simp only [show (k91).sz = 5 from rfl, Nat.mul_one, Nat.add_zero] at hx12_0); have hf12_0 := hfr12 0; (try simp only [show (k91).sz = 5 from rfl, Nat.mul_one, Nat.add_zero] at hf12_0); have hx12_1 := hcc12 1 _ rfl; (try simp only [show (k91).sz = 5 from rfl, Nat.mul_one, Nat.add_zero] at hx12_1); have hf12_1 := hfr12 1; (try simp only [show (k91).sz = 5 from rfl, Nat.mul_one, Nat.add_zero] at hf12_1); have hx12_2 := hcc12 2 _ rfl; (try simp only [show (k91).sz = 5 from rfl, Nat.mul_one, Nat.add_zero] at hx12_2); have hf12_2 := hfr12 2; (try simp only [show (k91).sz = 5 from rfl, Nat.mul_one, Nat.add_zero] at hf12_2); have hx12_3 := hcc12 3 _ rfl; (try simp only [show (k91).sz = 5 from rfl, Nat.mul_one, Nat.add_zero] at hx12_3); have hf12_3 := hfr12 3; (try simp only [show (k91).sz = 5 from rfl, Nat.mul_one, Nat.add_zero] at hf12_3); have hx12_4 := hcc12 4 _ rfl; (try simp only [show (k91).sz = 5 from rfl, Nat.mul_one, Nat.add_zero] at hx12_4); have hf12_4 := hfr12 4; (try simp only [show (k91).sz = 5 from rfl, Nat.mul_one, Nat.add_zero] at hf12_4); clear hcl12 hcc12 hfr12 hM12) | ((with_reducible refine gate_store (t := 91) (p := 21) rfl ?_); refine store_event (t := 91) (p := 21) (v := ?vo_w13) (w1 := (((((w11.setCell ⟨go10, (x4_1 : Int).toNat * 5, none⟩ (.int .i8 t115)).setCell ⟨go10, (x4_1 : Int).toNat * 5 + 1, none⟩ (.int .i8 t116)).setCell ⟨go10, (x4_1 : Int).toNat * 5 + 2, none⟩ (.int .i8 t117)).setCell ⟨go10, (x4_1 : Int).toNat * 5 + 3, none⟩ (.int .i8 t118)).setCell ⟨go10, (x4_1 : Int).toNat * 5 + 4, none⟩ (.int .i8 t119))) ?hg ?ho ?hn ?hr ?_; (case ho => rfl); (case hg => rfl); (case hn => rfl); (case hr => exact zgs); intro w13 hw; have hg : w11.grownBy w13 (some go10) := (by rw [hw]; exact HP12.2); have hp_ : Kd.R k91 91 w13 w.heap.size (fun _ => True) (.slice (some ⟨go10, 0, none⟩) x3_1.length co10) y120 := (by rw [hw, Ny120.out]; exact HP12.1); clear HP12; have n_ : _ ∧ _ := ⟨Aside0.mk (hp_), Aside0.mk ((by rw [hw]; exact below_set (below_set (below_set (below_set (below_set (HB.out) GB10.out) GB10.out) GB10.out) GB10.out) GB10.out : Below w.heap.size w w13))⟩; clear HO_3 HB; obtain ⟨HO_3, HB⟩ := n_; clear hg hw hp_))
 go_roundg k1
 case measure => have := HK1.out; omega
 case rel => exact ⟨(y120), (wrap64 (x4_1 + 1)), zi, H', ⟨by have := HK1.out; omega⟩, ze HO_3, zl HB⟩
def laws_toBoard.f (k : Nat) (a0_0 : Int) (a0_1 : Int) (l0_2 : List (S88)) : Option (Int × Int × (List (S91))) := (laws_toPieceS.f k l0_2).bind fun t124 => (some (a0_0, a0_1, t124))
theorem laws_toBoard.mono : ∀ a0 a1 a2 k, LeO (laws_toBoard.f k a0 a1 a2) (laws_toBoard.f (k + 1) a0 a1 a2) := by
 intro a0 a1 a2 k
 unfold laws_toBoard.f
 repeat' first | (with_reducible first | apply laws_toPieceS.mono | exact LeO.refl _ | exact LeO.none _ | refine LeO.ite ?_ ?_ | refine LeO.bind ?_ (fun _ => ?_)) | apply laws_toPieceS.mono | exact LeO.none _ | refine LeO.ite ?_ ?_ | refine LeO.bind ?_ (fun _ => ?_)
theorem laws_toBoard.calls (k : Nat) (a0_0 : Int) (a0_1 : Int) (A0_2 : Option Addr) (c0_2 : Nat) (l0_2 : List (S88)) (r1 : Int) (r2 : Int) (r3 : List (S91)) (w : World) (hr0_2 : Kd.C k88 w A0_2 l0_2.length l0_2) (hc0_2 : l0_2.length ≤ c0_2) (h : laws_toBoard.f k a0_0 a0_1 l0_2 = some (r1, r2, r3)) :
    Calls Try.prog 42 #[.agg #[.int .i8 a0_0, .int .i8 a0_1, .slice A0_2 l0_2.length c0_2]] w fun e w' => ∃ v2_ : Value, e = .returned (.agg #[.int .i8 r1, .int .i8 r2, v2_]) ∧ Kd.R k91 91 w' w.heap.size (fun _ => True) v2_ r3 ∧ Below w.heap.size w w' := by
 have hu25 := Try.underlying25
 have hu37 := Try.underlying37
 have HR0_2 := Aside0.mk hr0_2
 have HC0_2 := Aside0.mk hc0_2
 clear hr0_2 hc0_2
 have HB := Aside0.mk (Below.refl w.heap.size w)
 have H : ((laws_toPieceS.f k l0_2).bind fun t124 => (some (a0_0, a0_1, t124))) = some (r1, r2, r3) := h
 clear h
 replace H := zob H
 obtain ⟨t124, A20, H⟩ := H
 replace H : (some (a0_0, a0_1, t124)) = some (r1, r2, r3) := H
 have A2 := Aside0.mk A20
 clear A20
 simp only [Option.some.injEq, Prod.mk.injEq] at H
 obtain ⟨rfl, rfl, rfl⟩ := H
 go_enter Try.func42, Try.ntmps42
 go_wp2_with (first | ((with_reducible refine gate_dst (N := 1) rfl ?_); refine zbx 1 #[.int .i8 a0_0, .int .i8 a0_1, .slice A0_2 l0_2.length c0_2] 25 ?_; intro gb121 hg w3 hbox hb; have n_ : _ ∧ _ ∧ _ ∧ _ := ⟨zb HB hb, Aside0.mk (hbox), zg HB hg, zg HB hg⟩; clear HB; obtain ⟨HB, BK121, GW121, GE121⟩ := n_; clear hb hbox hg) | ((with_reducible refine gate_dst (N := 2) rfl ?_); refine zbx 2 #[.int .i8 0, .int .i8 0, .slice none 0 0] 37 ?_; intro gb122 hg w4 hbox hb; have n_ : _ ∧ _ ∧ _ ∧ _ ∧ _ ∧ _ ∧ _ := ⟨zk BK121 hb, zbs hb, Aside0.mk (hbox), zg HB hg, zg HB hg, zn1 BK121 hg, zn2 BK121 hg⟩; clear BK121 HB; obtain ⟨BK121, HB, BK122, GW122, GE122, NB121_122, NB122_121⟩ := n_; clear hb hbox hg) | ((with_reducible refine gate_dst (N := 3) rfl ?_); refine zbx 3 #[.int .i8 0, .int .i8 0, .slice none 0 0] 37 ?_; intro gb123 hg w5 hbox hb; have n_ : _ ∧ _ ∧ _ ∧ _ ∧ _ ∧ _ ∧ _ ∧ _ ∧ _ ∧ _ := ⟨zk BK121 hb, zk BK122 hb, zbs hb, Aside0.mk (hbox), zg HB hg, zg HB hg, zn1 BK121 hg, zn2 BK121 hg, zn1 BK122 hg, zn2 BK122 hg⟩; clear BK121 BK122 HB; obtain ⟨BK121, BK122, HB, BK123, GW123, GE123, NB121_123, NB123_121, NB122_123, NB123_122⟩ := n_; clear hb hbox hg; have hnb6 := NB121_122.out; have hnc6 := NB122_121.out; have hnb7 := NB121_123.out; have hnc7 := NB123_121.out; obtain ⟨z8_0, z8_1, z8_2, y8_0, y8_1, y8_2⟩ := zB3 BK121; have hnb9 := NB123_122.out; have hnc9 := NB122_123.out; obtain ⟨z10_0, z10_1, z10_2, y10_0, y10_1, y10_2⟩ := zB3 BK123) | ((with_reducible refine gate_callee (f := 107) rfl ?_); refine goesL_ (some 12) rfl rfl Try.func107 (by kernel_rfl) rfl #[.slice A0_2 l0_2.length c0_2] rfl zm ?_; (with_reducible refine (laws_toPieceS.calls k _ _ l0_2 t124 _ ?side1 ?side2 A2.out).mono ?_); (case side1 => exact Kd.C_below HR0_2.out zbo); (case side2 => exact HC0_2.out); rintro e w11 ⟨v125, rfl, ho0, hb⟩; refine ⟨_, rfl, ?_⟩; have n_ : _ ∧ _ ∧ _ ∧ _ ∧ _ := ⟨Aside0.mk (Kd.R_lower ho0 (zz HB)), zfb BK121 NB121_123 hb, zfb BK122 NB122_123 hb, Aside0.mk (blk_below (g := gb123) (o := .cells #[.int .i8 a0_0, .int .i8 a0_1, .slice none 0 0] 37 (0, 0)) (zp BK123) hb), zbs hb⟩; clear BK121 BK122 BK123 HB; obtain ⟨HO126, BK121, BK122, BK123, HB⟩ := n_; (try clear hb); (try clear hb2); (try clear hk); (try clear hi); (try clear ho0); obtain ⟨Ao12, co12, eo12⟩ := Kd.R_slice HO126.out; subst eo12; obtain ⟨z13_0, z13_1, z13_2, y13_0, y13_1, y13_2⟩ := zB3 BK123; obtain ⟨z14_0, z14_1, z14_2, y14_0, y14_1, y14_2⟩ := zB3 BK122))
 refine bodyPost_ret (results_cell_row rfl _ _ gb122 37 #[.int .i8 a0_0, .int .i8 a0_1, .slice Ao12 t124.length co12] (0, 0) _ rfl (by (with_reducible repeat (first | refine blk_drewN ?_ _ | refine blk_drew ?_ | refine blk_alloc ?_ _)); refine blk_put (cs := #[.int .i8 a0_0, .int .i8 a0_1, .slice none 0 0]) ?_ 2 _ rfl; (with_reducible repeat (first | refine blk_drewN ?_ _ | refine blk_drew ?_ | refine blk_alloc ?_ _)); refine blk_put (cs := #[.int .i8 a0_0, .int .i8 0, .slice none 0 0]) ?_ 1 _ rfl; (with_reducible repeat (first | refine blk_drewN ?_ _ | refine blk_drew ?_ | refine blk_alloc ?_ _)); refine blk_put (cs := #[.int .i8 0, .int .i8 0, .slice none 0 0]) ?_ 0 _ rfl; (with_reducible repeat (first | refine blk_drewN ?_ _ | refine blk_drew ?_ | refine blk_alloc ?_ _)); refine blk_far ?_ NB122_123.out _; (with_reducible repeat (first | refine blk_drewN ?_ _ | refine blk_drew ?_ | refine blk_alloc ?_ _)); exact BK122.out) Try.underlying37 rfl (by kernel_rfl)) rfl ?_
 exact ⟨_, zv, by (with_reducible repeat (first | apply Kd.R_alloc | apply Kd.R_drewN | apply Kd.R_drew)); exact Kd.R_mono (Kd.R_far (p := ⟨gb122, 2, none⟩) (Kd.R_far (p := ⟨gb122, 1, none⟩) (Kd.R_far (p := ⟨gb122, 0, none⟩) (Kd.R_far (p := ⟨gb123, 2, none⟩) (Kd.R_types (Kd.R_types HO126.out BK123.out (by decide)) BK122.out (by decide)) (fun _ hk => hk.1.2) (.slice Ao12 t124.length co12)) (fun _ hk => hk.2) (.int .i8 a0_0)) (fun _ hk => hk.2) (.int .i8 a0_1)) (fun _ hk => hk.2) (.slice Ao12 t124.length co12)) (fun _ hk => trivial), zbo⟩
def laws_eqCell.l0 : Nat → Int → Int → Int → Int → Int → Option (Bool)
  | 0, _, _, _, _, _ => none
  | k + 1, x5, x128000, x128001, x129000, x129001 => if x5 < 2 then (if x5 = 0 then (if x128000 = x129000 then (laws_eqCell.l0 k (wrap64 (x5 + 1)) x128000 x128001 x129000 x129001) else (some false)) else (if x5 = 1 then (if x128001 = x129001 then (laws_eqCell.l0 k (wrap64 (x5 + 1)) x128000 x128001 x129000 x129001) else (some false)) else (none))) else (some true)
def laws_eqCell.f (k : Nat) (a0_0 : Int) (a0_1 : Int) (a1_0 : Int) (a1_1 : Int) : Option (Bool) := laws_eqCell.l0 k 0 a0_0 a0_1 a1_0 a1_1
theorem laws_eqCell.mono_l : ∀ k, (∀ y0 y1 y2 y3 y4, LeO (laws_eqCell.l0 k y0 y1 y2 y3 y4) (laws_eqCell.l0 (k + 1) y0 y1 y2 y3 y4))
  | 0 => fun _ _ _ _ _ r h => by simp [laws_eqCell.l0] at h
  | k + 1 => by
    have ih0 := laws_eqCell.mono_l k
    · intro y0 y1 y2 y3 y4
      unfold laws_eqCell.l0
      repeat' first | (with_reducible first | apply ih0 | exact LeO.refl _ | exact LeO.none _ | refine LeO.ite ?_ ?_ | refine LeO.bind ?_ (fun _ => ?_)) | apply ih0 | exact LeO.none _ | refine LeO.ite ?_ ?_ | refine LeO.bind ?_ (fun _ => ?_)
theorem laws_eqCell.mono : ∀ a0 a1 a2 a3 k, LeO (laws_eqCell.f k a0 a1 a2 a3) (laws_eqCell.f (k + 1) a0 a1 a2 a3) := by
 intro a0 a1 a2 a3 k
 have ih0 := laws_eqCell.mono_l k
 unfold laws_eqCell.f
 repeat' first | (with_reducible first | apply ih0 | exact LeO.refl _ | exact LeO.none _ | refine LeO.ite ?_ ?_ | refine LeO.bind ?_ (fun _ => ?_)) | apply ih0 | exact LeO.none _ | refine LeO.ite ?_ ?_ | refine LeO.bind ?_ (fun _ => ?_)
theorem laws_eqCell.calls (k : Nat) (a0_0 : Int) (a0_1 : Int) (a1_0 : Int) (a1_1 : Int) (r : Bool) (w : World) (h : laws_eqCell.f k a0_0 a0_1 a1_0 a1_1 = some r) :
    Calls Try.prog 159 #[.agg #[.int .i8 a0_0, .int .i8 a0_1], .agg #[.int .i8 a1_0, .int .i8 a1_1]] w fun e w' => e = .returned (.bool r) ∧ Below w.heap.size w w' := by
 have hu74 := Try.underlying74
 have HB := Aside0.mk (Below.refl w.heap.size w)
 have H : (laws_eqCell.l0 k 0 a0_0 a0_1 a1_0 a1_1) = some r := h
 clear h
 have H' := Aside0.mk H
 clear H
 go_enter Try.func159, Try.ntmps159
 go_wp2_with (first | ((with_reducible refine gate_dst (N := 2) rfl ?_); refine zbx 2 #[.int .i8 a0_0, .int .i8 a0_1] 74 ?_; intro gb127 hg w3 hbox hb; have n_ : _ ∧ _ ∧ _ ∧ _ := ⟨zb HB hb, Aside0.mk (hbox), zg HB hg, zg HB hg⟩; clear HB; obtain ⟨HB, BK127, GW127, GE127⟩ := n_; clear hb hbox hg) | ((with_reducible refine gate_dst (N := 3) rfl ?_); refine zbx 3 #[.int .i8 a1_0, .int .i8 a1_1] 74 ?_; intro gb128 hg w4 hbox hb; have n_ : _ ∧ _ ∧ _ ∧ _ ∧ _ ∧ _ ∧ _ := ⟨zk BK127 hb, zbs hb, Aside0.mk (hbox), zg HB hg, zg HB hg, zn1 BK127 hg, zn2 BK127 hg⟩; clear BK127 HB; obtain ⟨BK127, HB, BK128, GW128, GE128, NB127_128, NB128_127⟩ := n_; clear hb hbox hg) | go_quiet (fail))
 go_loopg [5] k (fun kq v5 w' => ∃ (x5_1 : Int), v5 = .int .i64 x5_1 ∧ Aside0 (laws_eqCell.l0 kq x5_1 a0_0 a0_1 a1_0 a1_1 = some r) ∧ Aside0 (kq ≤ k) ∧ Aside0 (w'.heap[gb127]? = some (.cells #[.int .i8 a0_0, .int .i8 a0_1] 74 (0, 0))) ∧ Aside0 (w'.heap[gb128]? = some (.cells #[.int .i8 a1_0, .int .i8 a1_1] 74 (0, 0))) ∧ Aside0 (Below w.heap.size w w'))
 case atStart => exact ⟨(0), zi, H', ⟨Nat.le_refl _⟩, zh BK127, zh BK128, zba⟩
 clear H'
 try clear c1
 try clear p2
 obtain ⟨x5_1, rfl, HA, HK1, BK127, BK128, HB⟩ := hrel
 cases gk with
 | zero => exact absurd HA.out (by simp [laws_eqCell.l0])
 | succ k1 => ?_
 have H := HA.out
 clear HA
 simp only [laws_eqCell.l0] at H
 by_cases c5 : x5_1 < 2
 rotate_left
 ·rw [if_neg c5] at H
  have c5b0 : decide (x5_1 < 2) = false := decide_eq_false c5
  clear c5
  obtain rfl := Option.some.inj H
  go_wp2
  repeat (go_quiet (fail); try go_wp2)
  go_ret
  exact ⟨zv, zbo⟩
 rw [if_pos c5] at H
 have c5b0 : decide (x5_1 < 2) = true := decide_eq_true c5
 clear c5
 by_cases c6 : x5_1 = 0
 ·rw [if_pos c6] at H
  have Ac6 : Aside0 (x5_1 = 0) := ⟨c6⟩
  clear c6
  have ar7e : x5_1 = 0 := by first | exact (show Aside0 (x5_1 = 0) by assumption).out | exact beq_iff_eq.mp (by assumption) | omega
  have ar7n : (x5_1).toNat = 0 := by rw [ar7e]; rfl
  have ar7l : decide (0 ≤ x5_1) = true := decide_eq_true (by omega)
  have ar7L := eq_true (of_decide_eq_true ar7l)
  have ar7h : decide (x5_1 < 2) = true := decide_eq_true (by omega)
  have ar7H := eq_true (of_decide_eq_true ar7h)
  clear ar7e
  have ar8e : x5_1 = 0 := by first | exact (show Aside0 (x5_1 = 0) by assumption).out | exact beq_iff_eq.mp (by assumption) | omega
  have ar8n : (x5_1).toNat = 0 := by rw [ar8e]; rfl
  have ar8l : decide (0 ≤ x5_1) = true := decide_eq_true (by omega)
  have ar8L := eq_true (of_decide_eq_true ar8l)
  have ar8h : decide (x5_1 < 2) = true := decide_eq_true (by omega)
  have ar8H := eq_true (of_decide_eq_true ar8h)
  clear ar8e
  by_cases c9 : a0_0 = a1_0
  ·rw [if_pos c9] at H
   have c9b0 : (a0_0 == a1_0) = true := beq_iff_eq.mpr c9
   have c9b1 : (a0_0 != a1_0) = false := bne_eq_false_iff_eq.mpr c9
   clear c9
   have H' := Aside0.mk H
   clear H
   have hnb10 := NB127_128.out
   have hnc10 := NB128_127.out
   obtain ⟨z11_0, z11_1, y11_0, y11_1⟩ := zB2 BK127
   obtain ⟨z12_0, z12_1, y12_0, y12_1⟩ := zB2 BK128
   go_wp2
   repeat (go_quiet (fail); try go_wp2)
   go_roundg k1
   case measure => have := HK1.out; omega
   case rel => exact ⟨(wrap64 (x5_1 + 1)), zi, H', ⟨by have := HK1.out; omega⟩, zh BK127, zh BK128, zba⟩
  rw [if_neg c9] at H
  have c9b0 : (a0_0 == a1_0) = false := beq_eq_false_iff_ne.mpr c9
  have c9b1 : (a0_0 != a1_0) = true := bne_iff_ne.mpr c9
  obtain rfl := Option.some.inj H
  have hnb13 := NB127_128.out
  have hnc13 := NB128_127.out
  obtain ⟨z14_0, z14_1, y14_0, y14_1⟩ := zB2 BK127
  obtain ⟨z15_0, z15_1, y15_0, y15_1⟩ := zB2 BK128
  go_wp2
  repeat (go_quiet (fail); try go_wp2)
  go_ret
  exact ⟨zv, zbo⟩
 rw [if_neg c6] at H
 clear c6
 by_cases c16 : x5_1 = 1
 rotate_left
 ·rw [if_neg c16] at H
  exact absurd H (by simp)
 rw [if_pos c16] at H
 have Ac16 : Aside0 (x5_1 = 1) := ⟨c16⟩
 clear c16
 have ar17e : x5_1 = 1 := by first | exact (show Aside0 (x5_1 = 1) by assumption).out | exact beq_iff_eq.mp (by assumption) | omega
 have ar17n : (x5_1).toNat = 1 := by rw [ar17e]; rfl
 have ar17l : decide (0 ≤ x5_1) = true := decide_eq_true (by omega)
 have ar17L := eq_true (of_decide_eq_true ar17l)
 have ar17h : decide (x5_1 < 2) = true := decide_eq_true (by omega)
 have ar17H := eq_true (of_decide_eq_true ar17h)
 clear ar17e
 have ar18e : x5_1 = 1 := by first | exact (show Aside0 (x5_1 = 1) by assumption).out | exact beq_iff_eq.mp (by assumption) | omega
 have ar18n : (x5_1).toNat = 1 := by rw [ar18e]; rfl
 have ar18l : decide (0 ≤ x5_1) = true := decide_eq_true (by omega)
 have ar18L := eq_true (of_decide_eq_true ar18l)
 have ar18h : decide (x5_1 < 2) = true := decide_eq_true (by omega)
 have ar18H := eq_true (of_decide_eq_true ar18h)
 clear ar18e
 by_cases c19 : a0_1 = a1_1
 ·rw [if_pos c19] at H
  have c19b0 : (a0_1 == a1_1) = true := beq_iff_eq.mpr c19
  have c19b1 : (a0_1 != a1_1) = false := bne_eq_false_iff_eq.mpr c19
  clear c19
  have H' := Aside0.mk H
  clear H
  have hnb20 := NB127_128.out
  have hnc20 := NB128_127.out
  obtain ⟨z21_0, z21_1, y21_0, y21_1⟩ := zB2 BK127
  obtain ⟨z22_0, z22_1, y22_0, y22_1⟩ := zB2 BK128
  go_wp2
  repeat (go_quiet (fail); try go_wp2)
  go_roundg k1
  case measure => have := HK1.out; omega
  case rel => exact ⟨(wrap64 (x5_1 + 1)), zi, H', ⟨by have := HK1.out; omega⟩, zh BK127, zh BK128, zba⟩
 rw [if_neg c19] at H
 have c19b0 : (a0_1 == a1_1) = false := beq_eq_false_iff_ne.mpr c19
 have c19b1 : (a0_1 != a1_1) = true := bne_iff_ne.mpr c19
 obtain rfl := Option.some.inj H
 have hnb23 := NB127_128.out
 have hnc23 := NB128_127.out
 obtain ⟨z24_0, z24_1, y24_0, y24_1⟩ := zB2 BK127
 obtain ⟨z25_0, z25_1, y25_0, y25_1⟩ := zB2 BK128
 go_wp2
 repeat (go_quiet (fail); try go_wp2)
 go_ret
 exact ⟨zv, zbo⟩
def laws_eqPiece.f (k : Nat) (a0_0 : Int) (a0_1 : Int) (a0_2 : Int) (a0_3 : Int) (a0_4 : Int) (a1_0 : Int) (a1_1 : Int) (a1_2 : Int) (a1_3 : Int) (a1_4 : Int) : Option (Bool) := (laws_eqCell.f k a0_0 a0_1 a1_0 a1_1).bind fun t131 => (if t131 = true then (if a0_2 = a1_2 then (if a0_3 = a1_3 then (if a0_4 = a1_4 then (some true) else (some false)) else (some false)) else (some false)) else (some false))
theorem laws_eqPiece.mono : ∀ a0 a1 a2 a3 a4 a5 a6 a7 a8 a9 k, LeO (laws_eqPiece.f k a0 a1 a2 a3 a4 a5 a6 a7 a8 a9) (laws_eqPiece.f (k + 1) a0 a1 a2 a3 a4 a5 a6 a7 a8 a9) := by
 intro a0 a1 a2 a3 a4 a5 a6 a7 a8 a9 k
 unfold laws_eqPiece.f
 repeat' first | (with_reducible first | apply laws_eqCell.mono | exact LeO.refl _ | exact LeO.none _ | refine LeO.ite ?_ ?_ | refine LeO.bind ?_ (fun _ => ?_)) | apply laws_eqCell.mono | exact LeO.none _ | refine LeO.ite ?_ ?_ | refine LeO.bind ?_ (fun _ => ?_)
theorem laws_eqPiece.calls (k : Nat) (a0_0 : Int) (a0_1 : Int) (a0_2 : Int) (a0_3 : Int) (a0_4 : Int) (a1_0 : Int) (a1_1 : Int) (a1_2 : Int) (a1_3 : Int) (a1_4 : Int) (r : Bool) (w : World) (h : laws_eqPiece.f k a0_0 a0_1 a0_2 a0_3 a0_4 a1_0 a1_1 a1_2 a1_3 a1_4 = some r) :
    Calls Try.prog 165 #[.agg #[.int .i8 a0_0, .int .i8 a0_1, .int .i8 a0_2, .int .i8 a0_3, .int .i8 a0_4], .agg #[.int .i8 a1_0, .int .i8 a1_1, .int .i8 a1_2, .int .i8 a1_3, .int .i8 a1_4]] w fun e w' => e = .returned (.bool r) ∧ Below w.heap.size w w' := by
 have hu91 := Try.underlying91
 have hu74 := Try.underlying74
 have HB := Aside0.mk (Below.refl w.heap.size w)
 have H : ((laws_eqCell.f k a0_0 a0_1 a1_0 a1_1).bind fun t131 => (if t131 = true then (if a0_2 = a1_2 then (if a0_3 = a1_3 then (if a0_4 = a1_4 then (some true) else (some false)) else (some false)) else (some false)) else (some false))) = some r := h
 clear h
 replace H := zob H
 obtain ⟨t131, A30, H⟩ := H
 replace H : (if t131 = true then (if a0_2 = a1_2 then (if a0_3 = a1_3 then (if a0_4 = a1_4 then (some true) else (some false)) else (some false)) else (some false)) else (some false)) = some r := H
 have A3 := Aside0.mk A30
 clear A30
 by_cases c4 : t131 = true
 rotate_left
 ·replace c4 := Bool.eq_false_iff.mpr c4
  subst c4
  have H1 : (some false) = some r := by rw [if_neg (show ¬ (false = true) by decide)] at H; exact H
  clear H
  have H := H1
  clear H1
  obtain rfl := Option.some.inj H
  go_enter Try.func165, Try.ntmps165
  go_wp2_with (first | ((with_reducible refine gate_dst (N := 2) rfl ?_); refine zbx 2 #[.int .i8 a0_0, .int .i8 a0_1, .int .i8 a0_2, .int .i8 a0_3, .int .i8 a0_4] 91 ?_; intro gb129 hg w40 hbox hb; have n_ : _ ∧ _ ∧ _ ∧ _ := ⟨zb HB hb, Aside0.mk (hbox), zg HB hg, zg HB hg⟩; clear HB; obtain ⟨HB, BK129, GW129, GE129⟩ := n_; clear hb hbox hg) | ((with_reducible refine gate_dst (N := 3) rfl ?_); refine zbx 3 #[.int .i8 a1_0, .int .i8 a1_1, .int .i8 a1_2, .int .i8 a1_3, .int .i8 a1_4] 91 ?_; intro gb130 hg w41 hbox hb; have n_ : _ ∧ _ ∧ _ ∧ _ ∧ _ ∧ _ ∧ _ := ⟨zk BK129 hb, zbs hb, Aside0.mk (hbox), zg HB hg, zg HB hg, zn1 BK129 hg, zn2 BK129 hg⟩; clear BK129 HB; obtain ⟨BK129, HB, BK130, GW130, GE130, NB129_130, NB130_129⟩ := n_; clear hb hbox hg; have hnb42 := NB129_130.out; have hnc42 := NB130_129.out; obtain ⟨z43_0, z43_1, z43_2, z43_3, z43_4, y43_0, y43_1, y43_2, y43_3, y43_4⟩ := zB5 BK129; obtain ⟨z44_0, z44_1, z44_2, z44_3, z44_4, y44_0, y44_1, y44_2, y44_3, y44_4⟩ := zB5 BK130) | ((with_reducible refine gate_callee (f := 159) rfl ?_); refine goesL_ (some 9) rfl rfl Try.func159 (by kernel_rfl) rfl #[.agg #[.int .i8 a0_0, .int .i8 a0_1], .agg #[.int .i8 a1_0, .int .i8 a1_1]] rfl zm ?_; (with_reducible refine (laws_eqCell.calls k a0_0 a0_1 a1_0 a1_1 false _ A3.out).mono ?_); rintro e w45 ⟨rfl, hb⟩; refine ⟨_, rfl, ?_⟩; have n_ : _ ∧ _ ∧ _ := ⟨zk BK129 hb, zk BK130 hb, zbs hb⟩; clear BK129 BK130 HB; obtain ⟨BK129, BK130, HB⟩ := n_; (try clear hb); (try clear hb2); (try clear hk); (try clear hi)))
  go_ret
  exact ⟨zv, zbo⟩
 subst c4
 have H1 : (if a0_2 = a1_2 then (if a0_3 = a1_3 then (if a0_4 = a1_4 then (some true) else (some false)) else (some false)) else (some false)) = some r := by rw [if_pos rfl] at H; exact H
 clear H
 have H := H1
 clear H1
 by_cases c5 : a0_2 = a1_2
 rotate_left
 ·rw [if_neg c5] at H
  have c5b0 : (a0_2 == a1_2) = false := beq_eq_false_iff_ne.mpr c5
  have c5b1 : (a0_2 != a1_2) = true := bne_iff_ne.mpr c5
  obtain rfl := Option.some.inj H
  go_enter Try.func165, Try.ntmps165
  go_wp2_with (first | ((with_reducible refine gate_dst (N := 2) rfl ?_); refine zbx 2 #[.int .i8 a0_0, .int .i8 a0_1, .int .i8 a0_2, .int .i8 a0_3, .int .i8 a0_4] 91 ?_; intro gb129 hg w32 hbox hb; have n_ : _ ∧ _ ∧ _ ∧ _ := ⟨zb HB hb, Aside0.mk (hbox), zg HB hg, zg HB hg⟩; clear HB; obtain ⟨HB, BK129, GW129, GE129⟩ := n_; clear hb hbox hg) | ((with_reducible refine gate_dst (N := 3) rfl ?_); refine zbx 3 #[.int .i8 a1_0, .int .i8 a1_1, .int .i8 a1_2, .int .i8 a1_3, .int .i8 a1_4] 91 ?_; intro gb130 hg w33 hbox hb; have n_ : _ ∧ _ ∧ _ ∧ _ ∧ _ ∧ _ ∧ _ := ⟨zk BK129 hb, zbs hb, Aside0.mk (hbox), zg HB hg, zg HB hg, zn1 BK129 hg, zn2 BK129 hg⟩; clear BK129 HB; obtain ⟨BK129, HB, BK130, GW130, GE130, NB129_130, NB130_129⟩ := n_; clear hb hbox hg; have hnb34 := NB129_130.out; have hnc34 := NB130_129.out; obtain ⟨z35_0, z35_1, z35_2, z35_3, z35_4, y35_0, y35_1, y35_2, y35_3, y35_4⟩ := zB5 BK129; obtain ⟨z36_0, z36_1, z36_2, z36_3, z36_4, y36_0, y36_1, y36_2, y36_3, y36_4⟩ := zB5 BK130) | ((with_reducible refine gate_callee (f := 159) rfl ?_); refine goesL_ (some 9) rfl rfl Try.func159 (by kernel_rfl) rfl #[.agg #[.int .i8 a0_0, .int .i8 a0_1], .agg #[.int .i8 a1_0, .int .i8 a1_1]] rfl zm ?_; (with_reducible refine (laws_eqCell.calls k a0_0 a0_1 a1_0 a1_1 true _ A3.out).mono ?_); rintro e w37 ⟨rfl, hb⟩; refine ⟨_, rfl, ?_⟩; have n_ : _ ∧ _ ∧ _ := ⟨zk BK129 hb, zk BK130 hb, zbs hb⟩; clear BK129 BK130 HB; obtain ⟨BK129, BK130, HB⟩ := n_; (try clear hb); (try clear hb2); (try clear hk); (try clear hi); obtain ⟨z38_0, z38_1, z38_2, z38_3, z38_4, y38_0, y38_1, y38_2, y38_3, y38_4⟩ := zB5 BK129; obtain ⟨z39_0, z39_1, z39_2, z39_3, z39_4, y39_0, y39_1, y39_2, y39_3, y39_4⟩ := zB5 BK130))
  go_ret
  exact ⟨zv, zbo⟩
 rw [if_pos c5] at H
 have c5b0 : (a0_2 == a1_2) = true := beq_iff_eq.mpr c5
 have c5b1 : (a0_2 != a1_2) = false := bne_eq_false_iff_eq.mpr c5
 clear c5
 by_cases c6 : a0_3 = a1_3
 rotate_left
 ·rw [if_neg c6] at H
  have c6b0 : (a0_3 == a1_3) = false := beq_eq_false_iff_ne.mpr c6
  have c6b1 : (a0_3 != a1_3) = true := bne_iff_ne.mpr c6
  obtain rfl := Option.some.inj H
  go_enter Try.func165, Try.ntmps165
  go_wp2_with (first | ((with_reducible refine gate_dst (N := 2) rfl ?_); refine zbx 2 #[.int .i8 a0_0, .int .i8 a0_1, .int .i8 a0_2, .int .i8 a0_3, .int .i8 a0_4] 91 ?_; intro gb129 hg w24 hbox hb; have n_ : _ ∧ _ ∧ _ ∧ _ := ⟨zb HB hb, Aside0.mk (hbox), zg HB hg, zg HB hg⟩; clear HB; obtain ⟨HB, BK129, GW129, GE129⟩ := n_; clear hb hbox hg) | ((with_reducible refine gate_dst (N := 3) rfl ?_); refine zbx 3 #[.int .i8 a1_0, .int .i8 a1_1, .int .i8 a1_2, .int .i8 a1_3, .int .i8 a1_4] 91 ?_; intro gb130 hg w25 hbox hb; have n_ : _ ∧ _ ∧ _ ∧ _ ∧ _ ∧ _ ∧ _ := ⟨zk BK129 hb, zbs hb, Aside0.mk (hbox), zg HB hg, zg HB hg, zn1 BK129 hg, zn2 BK129 hg⟩; clear BK129 HB; obtain ⟨BK129, HB, BK130, GW130, GE130, NB129_130, NB130_129⟩ := n_; clear hb hbox hg; have hnb26 := NB129_130.out; have hnc26 := NB130_129.out; obtain ⟨z27_0, z27_1, z27_2, z27_3, z27_4, y27_0, y27_1, y27_2, y27_3, y27_4⟩ := zB5 BK129; obtain ⟨z28_0, z28_1, z28_2, z28_3, z28_4, y28_0, y28_1, y28_2, y28_3, y28_4⟩ := zB5 BK130) | ((with_reducible refine gate_callee (f := 159) rfl ?_); refine goesL_ (some 9) rfl rfl Try.func159 (by kernel_rfl) rfl #[.agg #[.int .i8 a0_0, .int .i8 a0_1], .agg #[.int .i8 a1_0, .int .i8 a1_1]] rfl zm ?_; (with_reducible refine (laws_eqCell.calls k a0_0 a0_1 a1_0 a1_1 true _ A3.out).mono ?_); rintro e w29 ⟨rfl, hb⟩; refine ⟨_, rfl, ?_⟩; have n_ : _ ∧ _ ∧ _ := ⟨zk BK129 hb, zk BK130 hb, zbs hb⟩; clear BK129 BK130 HB; obtain ⟨BK129, BK130, HB⟩ := n_; (try clear hb); (try clear hb2); (try clear hk); (try clear hi); obtain ⟨z30_0, z30_1, z30_2, z30_3, z30_4, y30_0, y30_1, y30_2, y30_3, y30_4⟩ := zB5 BK129; obtain ⟨z31_0, z31_1, z31_2, z31_3, z31_4, y31_0, y31_1, y31_2, y31_3, y31_4⟩ := zB5 BK130))
  go_ret
  exact ⟨zv, zbo⟩
 rw [if_pos c6] at H
 have c6b0 : (a0_3 == a1_3) = true := beq_iff_eq.mpr c6
 have c6b1 : (a0_3 != a1_3) = false := bne_eq_false_iff_eq.mpr c6
 clear c6
 by_cases c7 : a0_4 = a1_4
 rotate_left
 ·rw [if_neg c7] at H
  have c7b0 : (a0_4 == a1_4) = false := beq_eq_false_iff_ne.mpr c7
  have c7b1 : (a0_4 != a1_4) = true := bne_iff_ne.mpr c7
  obtain rfl := Option.some.inj H
  go_enter Try.func165, Try.ntmps165
  go_wp2_with (first | ((with_reducible refine gate_dst (N := 2) rfl ?_); refine zbx 2 #[.int .i8 a0_0, .int .i8 a0_1, .int .i8 a0_2, .int .i8 a0_3, .int .i8 a0_4] 91 ?_; intro gb129 hg w16 hbox hb; have n_ : _ ∧ _ ∧ _ ∧ _ := ⟨zb HB hb, Aside0.mk (hbox), zg HB hg, zg HB hg⟩; clear HB; obtain ⟨HB, BK129, GW129, GE129⟩ := n_; clear hb hbox hg) | ((with_reducible refine gate_dst (N := 3) rfl ?_); refine zbx 3 #[.int .i8 a1_0, .int .i8 a1_1, .int .i8 a1_2, .int .i8 a1_3, .int .i8 a1_4] 91 ?_; intro gb130 hg w17 hbox hb; have n_ : _ ∧ _ ∧ _ ∧ _ ∧ _ ∧ _ ∧ _ := ⟨zk BK129 hb, zbs hb, Aside0.mk (hbox), zg HB hg, zg HB hg, zn1 BK129 hg, zn2 BK129 hg⟩; clear BK129 HB; obtain ⟨BK129, HB, BK130, GW130, GE130, NB129_130, NB130_129⟩ := n_; clear hb hbox hg; have hnb18 := NB129_130.out; have hnc18 := NB130_129.out; obtain ⟨z19_0, z19_1, z19_2, z19_3, z19_4, y19_0, y19_1, y19_2, y19_3, y19_4⟩ := zB5 BK129; obtain ⟨z20_0, z20_1, z20_2, z20_3, z20_4, y20_0, y20_1, y20_2, y20_3, y20_4⟩ := zB5 BK130) | ((with_reducible refine gate_callee (f := 159) rfl ?_); refine goesL_ (some 9) rfl rfl Try.func159 (by kernel_rfl) rfl #[.agg #[.int .i8 a0_0, .int .i8 a0_1], .agg #[.int .i8 a1_0, .int .i8 a1_1]] rfl zm ?_; (with_reducible refine (laws_eqCell.calls k a0_0 a0_1 a1_0 a1_1 true _ A3.out).mono ?_); rintro e w21 ⟨rfl, hb⟩; refine ⟨_, rfl, ?_⟩; have n_ : _ ∧ _ ∧ _ := ⟨zk BK129 hb, zk BK130 hb, zbs hb⟩; clear BK129 BK130 HB; obtain ⟨BK129, BK130, HB⟩ := n_; (try clear hb); (try clear hb2); (try clear hk); (try clear hi); obtain ⟨z22_0, z22_1, z22_2, z22_3, z22_4, y22_0, y22_1, y22_2, y22_3, y22_4⟩ := zB5 BK129; obtain ⟨z23_0, z23_1, z23_2, z23_3, z23_4, y23_0, y23_1, y23_2, y23_3, y23_4⟩ := zB5 BK130))
  go_ret
  exact ⟨zv, zbo⟩
 rw [if_pos c7] at H
 have c7b0 : (a0_4 == a1_4) = true := beq_iff_eq.mpr c7
 have c7b1 : (a0_4 != a1_4) = false := bne_eq_false_iff_eq.mpr c7
 clear c7
 obtain rfl := Option.some.inj H
 go_enter Try.func165, Try.ntmps165
 go_wp2_with (first | ((with_reducible refine gate_dst (N := 2) rfl ?_); refine zbx 2 #[.int .i8 a0_0, .int .i8 a0_1, .int .i8 a0_2, .int .i8 a0_3, .int .i8 a0_4] 91 ?_; intro gb129 hg w8 hbox hb; have n_ : _ ∧ _ ∧ _ ∧ _ := ⟨zb HB hb, Aside0.mk (hbox), zg HB hg, zg HB hg⟩; clear HB; obtain ⟨HB, BK129, GW129, GE129⟩ := n_; clear hb hbox hg) | ((with_reducible refine gate_dst (N := 3) rfl ?_); refine zbx 3 #[.int .i8 a1_0, .int .i8 a1_1, .int .i8 a1_2, .int .i8 a1_3, .int .i8 a1_4] 91 ?_; intro gb130 hg w9 hbox hb; have n_ : _ ∧ _ ∧ _ ∧ _ ∧ _ ∧ _ ∧ _ := ⟨zk BK129 hb, zbs hb, Aside0.mk (hbox), zg HB hg, zg HB hg, zn1 BK129 hg, zn2 BK129 hg⟩; clear BK129 HB; obtain ⟨BK129, HB, BK130, GW130, GE130, NB129_130, NB130_129⟩ := n_; clear hb hbox hg; have hnb10 := NB129_130.out; have hnc10 := NB130_129.out; obtain ⟨z11_0, z11_1, z11_2, z11_3, z11_4, y11_0, y11_1, y11_2, y11_3, y11_4⟩ := zB5 BK129; obtain ⟨z12_0, z12_1, z12_2, z12_3, z12_4, y12_0, y12_1, y12_2, y12_3, y12_4⟩ := zB5 BK130) | ((with_reducible refine gate_callee (f := 159) rfl ?_); refine goesL_ (some 9) rfl rfl Try.func159 (by kernel_rfl) rfl #[.agg #[.int .i8 a0_0, .int .i8 a0_1], .agg #[.int .i8 a1_0, .int .i8 a1_1]] rfl zm ?_; (with_reducible refine (laws_eqCell.calls k a0_0 a0_1 a1_0 a1_1 true _ A3.out).mono ?_); rintro e w13 ⟨rfl, hb⟩; refine ⟨_, rfl, ?_⟩; have n_ : _ ∧ _ ∧ _ := ⟨zk BK129 hb, zk BK130 hb, zbs hb⟩; clear BK129 BK130 HB; obtain ⟨BK129, BK130, HB⟩ := n_; (try clear hb); (try clear hb2); (try clear hk); (try clear hi); obtain ⟨z14_0, z14_1, z14_2, z14_3, z14_4, y14_0, y14_1, y14_2, y14_3, y14_4⟩ := zB5 BK129; obtain ⟨z15_0, z15_1, z15_2, z15_3, z15_4, y15_0, y15_1, y15_2, y15_3, y15_4⟩ := zB5 BK130))
 go_ret
 exact ⟨zv, zbo⟩
end Go.Proofs.Ytffnfpnajkgnaaa.PFnExactJoinBoards
