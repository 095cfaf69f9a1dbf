-- WRITTEN by xprint.py, a program of this session's. Not trusted: Lean checks it.
import Derived.Test.YtnbjijkpenlpbaaDoorPFnExactBoardTextx0
import Derived.Test.YtnbjijkpenlpbaaDoorPFnExactBoardTextx4
namespace Go.Proofs.YtnbjijkpenlpbaaDoor.PFnExactBoardText
open Go.RowKit Go.Proofs.YtnbjijkpenlpbaaDoorW.PrintWords Go.Proofs.YtnbjijkpenlpbaaDoorW.PrintLast Go.Proofs.YtnbjijkpenlpbaaDoorW.PrintMore Go.Proofs.YtnbjijkpenlpbaaDoorX
attribute [local go_sem] max2_int min2_int max_two min_two max_three min_three max_four min_four   -- for this text's walks alone
set_option linter.unusedVariables false
set_option linter.unusedSimpArgs false

theorem wpAnyLast_to {P : Program} {md : Region.Mode} {ops : Array Oper} {Q : Exit → Act → World → Prop} {S S' : World → Prop} (hSS : ∀ w, S' w → S w) :
    ∀ (fuel : Nat) (l : Array Bool) (a : Act) (w : World), S' w → wpAnyLast P md ops Q S' [] fuel l a w → wpAnyLast P md ops Q S [] fuel l a w
  | 0, _, _, _, _, h => h
  | fuel + 1, _, _, _, hS, h => ⟨h.1, fun i hi => wpOp_mono (fun a' w' h' => ⟨fun _ _ => hSS _ (h'.1 (by simp) hS), wpAnyLast_to hSS fuel _ a' w' (h'.1 (by simp) hS) h'.2⟩) (h.2 i hi)⟩
theorem more_ {P : Program} {md : Region.Mode} {ops : Array Oper} {Q : Exit → Act → World → Prop} {S S' : World → Prop} {fuel : Nat} {l : Array Bool} {a : Act} {w : World} (hSS : ∀ w, S' w → S w) (hS : S' w)
    (h : S' w → wpAnyLast P md ops Q S' [] fuel l a w) : wpAnyLast P md ops Q S [] fuel l a w := wpAnyLast_to hSS fuel l a w hS (h hS)
/-! ### spec_l01Text: function 30 -/
def spec_l01Text.l0 : Nat → List (S37) → ByteArray → Int → Option (ByteArray)
  | 0, _, _, _ => none
  | k + 1, x0, x3, x4 => if 0 < (x0.length : Int) then (if x4 < (((rd_T37 x0 0).f2).length : Int) then (if 0 ≤ x4 then ((spec_Decimal.f k (wrap64 ((rd_T85 ((rd_T37 x0 0).f2) x4).f0.f0))).bind fun t151 => (if t151.size + 1 ≤ 9223372036854775807 then ((spec_Decimal.f k (wrap64 ((rd_T85 ((rd_T37 x0 0).f2) x4).f0.f1))).bind fun t153 => (if t151.size + 1 + t153.size ≤ 9223372036854775807 then (if t151.size + 1 + t153.size + 1 ≤ 9223372036854775807 then ((spec_l01Words.f).bind fun t154 => (if 0 ≤ ((rd_T85 ((rd_T37 x0 0).f2) x4).f1) then (if ((rd_T85 ((rd_T37 x0 0).f2) x4).f1) < (t154.length : Int) then (if t151.size + 1 + t153.size + 1 + (rdOf ByteArray.empty t154 ((rd_T85 ((rd_T37 x0 0).f2) x4).f1)).size ≤ 9223372036854775807 then (if t151.size + 1 + t153.size + 1 + (rdOf ByteArray.empty t154 ((rd_T85 ((rd_T37 x0 0).f2) x4).f1)).size + 1 ≤ 9223372036854775807 then ((spec_Decimal.f k (wrap64 ((rd_T85 ((rd_T37 x0 0).f2) x4).f2))).bind fun t160 => (if t151.size + 1 + t153.size + 1 + (rdOf ByteArray.empty t154 ((rd_T85 ((rd_T37 x0 0).f2) x4).f1)).size + 1 + t160.size ≤ 9223372036854775807 then (if t151.size + 1 + t153.size + 1 + (rdOf ByteArray.empty t154 ((rd_T85 ((rd_T37 x0 0).f2) x4).f1)).size + 1 + t160.size + 1 ≤ 9223372036854775807 then ((spec_Decimal.f k (wrap64 ((rd_T85 ((rd_T37 x0 0).f2) x4).f3))).bind fun t162 => (if t151.size + 1 + t153.size + 1 + (rdOf ByteArray.empty t154 ((rd_T85 ((rd_T37 x0 0).f2) x4).f1)).size + 1 + t160.size + 1 + t162.size ≤ 9223372036854775807 then (if t151.size + 1 + t153.size + 1 + (rdOf ByteArray.empty t154 ((rd_T85 ((rd_T37 x0 0).f2) x4).f1)).size + 1 + t160.size + 1 + t162.size + 1 ≤ 9223372036854775807 then (if x3.size + t151.size + 1 + t153.size + 1 + (rdOf ByteArray.empty t154 ((rd_T85 ((rd_T37 x0 0).f2) x4).f1)).size + 1 + t160.size + 1 + t162.size + 1 ≤ 9223372036854775807 then (spec_l01Text.l0 k x0 (x3 ++ (((((((((t151 ++ (⟨#[32]⟩ : ByteArray)) ++ t153) ++ (⟨#[32]⟩ : ByteArray)) ++ (rdOf ByteArray.empty t154 ((rd_T85 ((rd_T37 x0 0).f2) x4).f1))) ++ (⟨#[32]⟩ : ByteArray)) ++ t160) ++ (⟨#[32]⟩ : ByteArray)) ++ t162) ++ (⟨#[10]⟩ : ByteArray))) (wrap64 (x4 + 1))) else (none)) else (none)) else (none))) else (none)) else (none))) else (none)) else (none)) else (none)) else (none))) else (none)) else (none))) else (none))) else (none)) else (some x3)) else (none)
def spec_l01Text.f (k : Nat) (l0 : List (S37)) : Option (ByteArray) := if 0 < (l0.length : Int) then ((spec_Decimal.f k (wrap64 ((rd_T37 l0 0).f0))).bind fun t144 => (if t144.size + 1 ≤ 9223372036854775807 then ((spec_Decimal.f k (wrap64 ((rd_T37 l0 0).f1))).bind fun t146 => (if t144.size + 1 + t146.size ≤ 9223372036854775807 then (if t144.size + 1 + t146.size + 1 ≤ 9223372036854775807 then (spec_l01Text.l0 k l0 (((t144 ++ (⟨#[32]⟩ : ByteArray)) ++ t146) ++ (⟨#[10]⟩ : ByteArray)) 0) else (none)) else (none))) else (none))) else (none)
theorem spec_l01Text.mono_l : ∀ k, (∀ y0 y1 y2, LeO (spec_l01Text.l0 k y0 y1 y2) (spec_l01Text.l0 (k + 1) y0 y1 y2))
  | 0 => fun _ _ _ r h => by simp [spec_l01Text.l0] at h
  | k + 1 => by
    have ih0 := spec_l01Text.mono_l k
    · intro y0 y1 y2
      unfold spec_l01Text.l0
      repeat' first
      | (with_reducible exact ih0 _ _ _)
      | (with_reducible exact spec_Decimal.mono _ _)
      | (with_reducible exact LeO.refl _)
      | (with_reducible exact LeO.none _)
      | (with_reducible refine LeO.ite ?_ ?_)
      | (with_reducible refine LeO.bind ?_ (fun _ => ?_))
      | exact ih0 _ _ _
      | exact spec_Decimal.mono _ _
      | exact LeO.none _
      | refine LeO.ite ?_ ?_
      | refine LeO.bind ?_ (fun _ => ?_)
theorem spec_l01Text.mono : ∀ a0 k, LeO (spec_l01Text.f k a0) (spec_l01Text.f (k + 1) a0) := by
  intro a0 k
  have ih0 := spec_l01Text.mono_l k
  unfold spec_l01Text.f
  repeat' first
      | (with_reducible exact ih0 _ _ _)
      | (with_reducible exact spec_Decimal.mono _ _)
      | (with_reducible exact LeO.refl _)
      | (with_reducible exact LeO.none _)
      | (with_reducible refine LeO.ite ?_ ?_)
      | (with_reducible refine LeO.bind ?_ (fun _ => ?_))
      | exact ih0 _ _ _
      | exact spec_Decimal.mono _ _
      | exact LeO.none _
      | refine LeO.ite ?_ ?_
      | refine LeO.bind ?_ (fun _ => ?_)
def spec_l01Text.T1 : Bool × List (List Nat × List Nat) := (true, [([], []), ([0], [0]), ([1], [1]), ([2], [2]), ([3], [3]), ([4], [4]), ([5], [5]), ([], []), ([7], [7]), ([8], [8]), ([9], [9]), ([10], [10]), ([11, 5], [11]), ([6, 12], [6, 12]), ([13], [13]), ([14, 12, 0, 1, 2, 3, 4, 5, 6, 7, 8, 9, 10, 11, 12, 13, 14], [14])])
def spec_l01Text.B1 : List Nat := [0, 1, 3, 7, 15, 31, 63, 0, 128, 384, 896, 1920, 4031, 8191, 16383, 32767]
theorem spec_l01Text.tab1 : rtab .any (opsOf Tryd.f30 1) = spec_l01Text.T1 := by kernel_rfl
theorem spec_l01Text.bits1 : waitsOk spec_l01Text.T1.2 spec_l01Text.B1 = true := by kernel_rfl
def spec_l01Text.T6 : Bool × List (List Nat × List Nat) := (true, [([], []), ([], []), ([1], [1]), ([2], [2]), ([3], [3]), ([4], [4]), ([5], [5]), ([6], [6]), ([7], [7]), ([], []), ([9], [9]), ([10], [10]), ([11], [11]), ([12], [12]), ([13], [13]), ([14, 7], [14]), ([8, 15], [8, 15]), ([16], [16]), ([15], []), ([], []), ([19], [19]), ([20], [20]), ([21], [21]), ([18, 22], [18, 22]), ([23], [23]), ([17, 24], [17, 24]), ([25], [25]), ([], []), ([27], [27]), ([28], [28]), ([29], [29]), ([30], [30]), ([31, 18], [31]), ([26, 32], [26, 32]), ([33], [33]), ([], []), ([35], [35]), ([36], [36]), ([37], [37]), ([38], [38]), ([39, 32], [39]), ([34, 40], [34, 40]), ([41], [41]), ([0, 42], [0, 42]), ([43, 40, 0, 1, 2, 3, 4, 5, 6, 7, 8, 9, 10, 11, 12, 13, 14, 15, 16, 17, 18, 19, 20, 21, 22, 23, 24, 25, 26, 27, 28, 29, 30, 31, 32, 33, 34, 35, 36, 37, 38, 39, 40, 41, 42, 43], [0, 43])])
def spec_l01Text.B6 : List Nat := [0, 0, 2, 6, 14, 30, 62, 126, 254, 0, 512, 1536, 3584, 7680, 15872, 32510, 65534, 131070, 65278, 0, 524288, 1572864, 3670016, 8191742, 16580350, 33554430, 67108862, 0, 134217728, 402653184, 939524096, 2013265920, 4161076990, 8589934590, 17179869182, 0, 34359738368, 103079215104, 240518168576, 515396075520, 1073607933694, 2199023255550, 4398046511102, 8796093022207, 17592186044415]
theorem spec_l01Text.tab6 : rtab .any (opsOf Tryd.f30 6) = spec_l01Text.T6 := by kernel_rfl
theorem spec_l01Text.bits6 : waitsOk spec_l01Text.T6.2 spec_l01Text.B6 = true := by kernel_rfl
set_option maxHeartbeats 8000000 in
set_option maxRecDepth 100000 in
theorem spec_l01Text.calls (k : Nat) (adp0 : Addr) (l0 : List (S37)) (r : ByteArray) (w : World) (hr0 : Kd.C k37 w (some adp0) l0.length l0) (h : spec_l01Text.f k l0 = some r) :
    Calls Tryd.prog 30 #[.pointer (some adp0)] w fun e w' => e = .returned (.string r) ∧ Below w.heap.size w w' := by
  have HR0 := Aside0.mk hr0
  clear hr0
  have HB := Aside0.mk (Below.refl w.heap.size w)
  have H : (if 0 < (l0.length : Int) then ((spec_Decimal.f k (wrap64 ((rd_T37 l0 0).f0))).bind fun t144 => (if t144.size + 1 ≤ 9223372036854775807 then ((spec_Decimal.f k (wrap64 ((rd_T37 l0 0).f1))).bind fun t146 => (if t144.size + 1 + t146.size ≤ 9223372036854775807 then (if t144.size + 1 + t146.size + 1 ≤ 9223372036854775807 then (spec_l01Text.l0 k l0 (((t144 ++ (⟨#[32]⟩ : ByteArray)) ++ t146) ++ (⟨#[10]⟩ : ByteArray)) 0) else (none)) else (none))) else (none))) else (none)) = some r := h
  clear h
  by_cases c2 : 0 < (l0.length : Int)
  · rw [if_pos c2] at H
    have c2b0 : decide (0 < (l0.length : Int)) = true := decide_eq_true c2
    have c2b1 : decide (0 < l0.length) = true := decide_eq_true (by omega)
    clear c2
    replace H := Option.bind_eq_some_iff.mp H
    obtain ⟨t144, A30, H⟩ := H
    replace H : (if t144.size + 1 ≤ 9223372036854775807 then ((spec_Decimal.f k (wrap64 ((rd_T37 l0 0).f1))).bind fun t146 => (if t144.size + 1 + t146.size ≤ 9223372036854775807 then (if t144.size + 1 + t146.size + 1 ≤ 9223372036854775807 then (spec_l01Text.l0 k l0 (((t144 ++ (⟨#[32]⟩ : ByteArray)) ++ t146) ++ (⟨#[10]⟩ : ByteArray)) 0) else (none)) else (none))) else (none)) = some r := H
    have A3 := Aside0.mk A30
    clear A30
    by_cases c4 : t144.size + 1 ≤ 9223372036854775807
    · rw [if_pos c4] at H
      have c4b0 := eq_true c4
      have c4b1 : decide (t144.size + 1 ≤ 9223372036854775807) = true := decide_eq_true c4
      try have c4b2 : (9223372036854775807 < t144.size + 1) = False := eq_false (Nat.not_lt.2 c4)
      replace H := Option.bind_eq_some_iff.mp H
      obtain ⟨t146, A50, H⟩ := H
      replace H : (if t144.size + 1 + t146.size ≤ 9223372036854775807 then (if t144.size + 1 + t146.size + 1 ≤ 9223372036854775807 then (spec_l01Text.l0 k l0 (((t144 ++ (⟨#[32]⟩ : ByteArray)) ++ t146) ++ (⟨#[10]⟩ : ByteArray)) 0) else (none)) else (none)) = some r := H
      have A5 := Aside0.mk A50
      clear A50
      by_cases c6 : t144.size + 1 + t146.size ≤ 9223372036854775807
      · rw [if_pos c6] at H
        have c6b0 := eq_true c6
        have c6b1 : decide (t144.size + 1 + t146.size ≤ 9223372036854775807) = true := decide_eq_true c6
        try have c6b2 : (9223372036854775807 < t144.size + 1 + t146.size) = False := eq_false (Nat.not_lt.2 c6)
        by_cases c7 : t144.size + 1 + t146.size + 1 ≤ 9223372036854775807
        · rw [if_pos c7] at H
          have c7b0 := eq_true c7
          have c7b1 : decide (t144.size + 1 + t146.size + 1 ≤ 9223372036854775807) = true := decide_eq_true c7
          try have c7b2 : (9223372036854775807 < t144.size + 1 + t146.size + 1) = False := eq_false (Nat.not_lt.2 c7)
          have H' := Aside0.mk H
          clear H
          go_enter Tryd.func30, Tryd.ntmps30
          try go_wp2
          have n0_ := Aside0.mk (below_drew1 HB.out)
          clear HB
          have HB := n0_
          clear n0_
          have p143 : 0 ≤ (0 : Int) := (by omega)
          have q143 : 0 < (l0.length : Int) := of_decide_eq_true (by first | (with_reducible assumption) | assumption)
          obtain ⟨ad143, A143_2, c143_2, e143, hx143_0, hx143_1, hx143_2, hl143_2, hi143_2⟩ := at_T37 HR0.out 0 p143 q143
          have hw143_2 := hx143_2
          (try rw [show ((0 : Int)).toNat = 0 from rfl] at hw143_2)
          (try rw [show 0 * 3 = 0 from rfl] at hw143_2)
          (try rw [Addr.add_zero'] at hw143_2)
          have hw143_1 := hx143_1
          (try rw [show ((0 : Int)).toNat = 0 from rfl] at hw143_1)
          (try rw [show 0 * 3 = 0 from rfl] at hw143_1)
          (try rw [Addr.add_zero'] at hw143_1)
          have hw143_0 := hx143_0
          (try rw [show ((0 : Int)).toNat = 0 from rfl] at hw143_0)
          (try rw [show 0 * 3 = 0 from rfl] at hw143_0)
          (try rw [Addr.add_zero'] at hw143_0)
          obtain rfl : adp0 = ad143 := (by injection e143)
          have qi143 : (0 < l0.length) = True := eq_true (by omega)
          (try rw [show ((0 : Int)).toNat = 0 from rfl] at hx143_0)
          (try rw [show 0 * 3 = 0 from rfl] at hx143_0)
          (try rw [Addr.add_zero'] at hx143_0)
          (try rw [show ((0 : Int)).toNat = 0 from rfl] at hx143_1)
          (try rw [show 0 * 3 = 0 from rfl] at hx143_1)
          (try rw [Addr.add_zero'] at hx143_1)
          (try rw [show ((0 : Int)).toNat = 0 from rfl] at hx143_2)
          (try rw [show 0 * 3 = 0 from rfl] at hx143_2)
          (try rw [Addr.add_zero'] at hx143_2)
          replace hx143_0 := (HB.out.cell (World.block_lt_of_cell? w _ hx143_0)).trans hx143_0
          replace hx143_1 := (HB.out.cell (World.block_lt_of_cell? w _ hx143_1)).trans hx143_1
          replace hx143_2 := (HB.out.cell (World.block_lt_of_cell? w _ hx143_2)).trans hx143_2
          have HR143_2 := Aside0.mk hi143_2
          have HC143_2 := Aside0.mk hl143_2
          clear hi143_2 hl143_2
          replace p143 := eq_true p143
          replace q143 := eq_true q143
          have p145 : 0 ≤ (0 : Int) := (by omega)
          have q145 : 0 < (l0.length : Int) := of_decide_eq_true (by first | (with_reducible assumption) | assumption)
          obtain ⟨ad145, A145_2, c145_2, e145, hx145_0, hx145_1, hx145_2, hl145_2, hi145_2⟩ := at_T37 HR0.out 0 p145 q145
          have hw145_2 := hx145_2
          (try rw [show ((0 : Int)).toNat = 0 from rfl] at hw145_2)
          (try rw [show 0 * 3 = 0 from rfl] at hw145_2)
          (try rw [Addr.add_zero'] at hw145_2)
          have hw145_1 := hx145_1
          (try rw [show ((0 : Int)).toNat = 0 from rfl] at hw145_1)
          (try rw [show 0 * 3 = 0 from rfl] at hw145_1)
          (try rw [Addr.add_zero'] at hw145_1)
          have hw145_0 := hx145_0
          (try rw [show ((0 : Int)).toNat = 0 from rfl] at hw145_0)
          (try rw [show 0 * 3 = 0 from rfl] at hw145_0)
          (try rw [Addr.add_zero'] at hw145_0)
          obtain rfl : adp0 = ad145 := (by injection e145)
          have qi145 : (0 < l0.length) = True := eq_true (by omega)
          (try rw [show ((0 : Int)).toNat = 0 from rfl] at hx145_0)
          (try rw [show 0 * 3 = 0 from rfl] at hx145_0)
          (try rw [Addr.add_zero'] at hx145_0)
          (try rw [show ((0 : Int)).toNat = 0 from rfl] at hx145_1)
          (try rw [show 0 * 3 = 0 from rfl] at hx145_1)
          (try rw [Addr.add_zero'] at hx145_1)
          (try rw [show ((0 : Int)).toNat = 0 from rfl] at hx145_2)
          (try rw [show 0 * 3 = 0 from rfl] at hx145_2)
          (try rw [Addr.add_zero'] at hx145_2)
          replace hx145_0 := (HB.out.cell (World.block_lt_of_cell? w _ hx145_0)).trans hx145_0
          replace hx145_1 := (HB.out.cell (World.block_lt_of_cell? w _ hx145_1)).trans hx145_1
          replace hx145_2 := (HB.out.cell (World.block_lt_of_cell? w _ hx145_2)).trans hx145_2
          have HR145_2 := Aside0.mk hi145_2
          have HC145_2 := Aside0.mk hl145_2
          clear hi145_2 hl145_2
          replace p145 := eq_true p145
          replace q145 := eq_true q145
          have ea_ := Option.some.inj (hx143_2.symm.trans hx145_2)
          injection ea_ with ea_ en_ ec_
          subst ea_
          subst ec_
          clear en_
          refine start_ (n := 16) (S := fun w' => w'.cell? adp0 = some (.int .i8 ((rd_T37 l0 0).f0)) ∧ w'.cell? ⟨adp0.block, adp0.off + 1, none⟩ = some (.int .i8 ((rd_T37 l0 0).f1)) ∧ w'.cell? ⟨adp0.block, adp0.off + 2, none⟩ = some (.slice A143_2 ((rd_T37 l0 0).f2).length c143_2) ∧ w'.cell? adp0 = some (.int .i8 ((rd_T37 l0 0).f0)) ∧ w'.cell? ⟨adp0.block, adp0.off + 1, none⟩ = some (.int .i8 ((rd_T37 l0 0).f1)) ∧ w'.cell? ⟨adp0.block, adp0.off + 2, none⟩ = some (.slice A143_2 ((rd_T37 l0 0).f2).length c143_2)) (ds := []) #[false, false, false, false, false, false, false, false, false, false, false, false, false, false, false, false] (by kernel_rfl) rfl rfl ⟨((HB.out.cell (World.block_lt_of_cell? w _ hw143_0)).trans hw143_0), ((HB.out.cell (World.block_lt_of_cell? w _ hw143_1)).trans hw143_1), ((HB.out.cell (World.block_lt_of_cell? w _ hw143_2)).trans hw143_2), ((HB.out.cell (World.block_lt_of_cell? w _ hw145_0)).trans hw145_0), ((HB.out.cell (World.block_lt_of_cell? w _ hw145_1)).trans hw145_1), ((HB.out.cell (World.block_lt_of_cell? w _ hw145_2)).trans hw145_2)⟩ (fun hHeld => ?_); refine with_tabW spec_l01Text.tab1 spec_l01Text.bits1 (fun HT_ HW_ => ?_)
          generalize w.drew = w8 at HB HR143_2 HR145_2 hx143_0 hx143_1 hx143_2 hx145_0 hx145_1 hx145_2 hHeld ⊢
          refine pure_ (i := 0) (N := some 6) (v := ?_) (a' := ?_) #[true, false, false, false, false, false, false, false, false, false, false, false, false, false, false, false] rfl rfl (any_of HT_.out (by kernel_rfl)) (fun _ _ _ h => h) (Or.inl ⟨by rfl, ?_⟩) ?_ ?_
          rotate_left
          · intro w'
            go_simp
            with_reducible rfl
          rotate_left
          · simp only [Act.put, List.setIfInBounds_toArray, List.set_cons_zero, List.set_cons_succ, i64_w, i32_w]
            rfl
          refine pure_ (i := 1) (N := some 7) (v := ?_) (a' := ?_) #[true, true, false, false, false, false, false, false, false, false, false, false, false, false, false, false] rfl rfl (any_of HT_.out (by kernel_rfl)) (fun _ _ _ h => h) (Or.inl ⟨by rfl, ?_⟩) ?_ ?_
          rotate_left
          · intro w'
            go_simp
            with_reducible rfl
          rotate_left
          · simp only [Act.put, List.setIfInBounds_toArray, List.set_cons_zero, List.set_cons_succ, i64_w, i32_w]
            rfl
          refine pure_ (i := 2) (N := some 8) (v := ?_) (a' := ?_) #[true, true, true, false, false, false, false, false, false, false, false, false, false, false, false, false] rfl rfl (any_of HT_.out (by kernel_rfl)) (fun _ _ _ h => h) (Or.inl ⟨by rfl, ?_⟩) ?_ ?_
          rotate_left
          · intro w'
            go_simp
            with_reducible rfl
          rotate_left
          · simp only [Act.put, List.setIfInBounds_toArray, List.set_cons_zero, List.set_cons_succ, i64_w, i32_w]
            rfl
          refine pure_ (i := 7) (N := some 13) (v := ?_) (a' := ?_) #[true, true, true, false, false, false, false, true, false, false, false, false, false, false, false, false] rfl rfl (any_of HT_.out (by kernel_rfl)) (fun _ _ _ h => h) (Or.inl ⟨by rfl, ?_⟩) ?_ ?_
          rotate_left
          · intro w'
            go_simp
            with_reducible rfl
          rotate_left
          · simp only [Act.put, List.setIfInBounds_toArray, List.set_cons_zero, List.set_cons_succ, i64_w, i32_w]
            rfl
          refine pure_ (i := 8) (N := some 14) (v := ?_) (a' := ?_) #[true, true, true, false, false, false, false, true, true, false, false, false, false, false, false, false] rfl rfl (any_of HT_.out (by kernel_rfl)) (fun _ _ _ h => h) (Or.inl ⟨by rfl, ?_⟩) ?_ ?_
          rotate_left
          · intro w'
            go_simp
            with_reducible rfl
          rotate_left
          · simp only [Act.put, List.setIfInBounds_toArray, List.set_cons_zero, List.set_cons_succ, i64_w, i32_w]
            rfl
          refine pure_ (i := 9) (N := some 15) (v := ?_) (a' := ?_) #[true, true, true, false, false, false, false, true, true, true, false, false, false, false, false, false] rfl rfl (any_of HT_.out (by kernel_rfl)) (fun _ _ _ h => h) (Or.inl ⟨by rfl, ?_⟩) ?_ ?_
          rotate_left
          · intro w'
            go_simp
            with_reducible rfl
          rotate_left
          · simp only [Act.put, List.setIfInBounds_toArray, List.set_cons_zero, List.set_cons_succ, i64_w, i32_w]
            rfl
          refine take_ (i := 3) (N := some 9) (v := ?_) (a' := ?_) #[true, true, true, true, false, false, false, true, true, true, false, false, false, false, false, false] rfl rfl (take_ofW HT_.out HW_.out (by kernel_rfl)) (fun _ _ _ h => h) (Or.inl ⟨by rfl, ?_⟩) hHeld ?_ ?_
          rotate_left
          · rintro w' ⟨s0, s1, s2, s3, s4, s5⟩
            go_simp
            with_reducible rfl
          rotate_left
          · simp only [Act.put, List.setIfInBounds_toArray, List.set_cons_zero, List.set_cons_succ, i64_w, i32_w]
            rfl
          refine pure_ (i := 4) (N := some 10) (v := ?_) (a' := ?_) #[true, true, true, true, true, false, false, true, true, true, false, false, false, false, false, false] rfl rfl (any_of HT_.out (by kernel_rfl)) (fun _ _ _ h => h) (Or.inl ⟨by rfl, ?_⟩) ?_ ?_
          rotate_left
          · intro w'
            go_simp
            with_reducible rfl
          rotate_left
          · simp only [Act.put, List.setIfInBounds_toArray, List.set_cons_zero, List.set_cons_succ, i64_w, i32_w]
            rfl
          refine take_ (i := 10) (N := some 16) (v := ?_) (a' := ?_) #[true, true, true, true, true, false, false, true, true, true, true, false, false, false, false, false] rfl rfl (take_ofW HT_.out HW_.out (by kernel_rfl)) (fun _ _ _ h => h) (Or.inl ⟨by rfl, ?_⟩) hHeld ?_ ?_
          rotate_left
          · rintro w' ⟨s0, s1, s2, s3, s4, s5⟩
            go_simp
            with_reducible rfl
          rotate_left
          · simp only [Act.put, List.setIfInBounds_toArray, List.set_cons_zero, List.set_cons_succ, i64_w, i32_w]
            rfl
          refine pure_ (i := 11) (N := some 17) (v := ?_) (a' := ?_) #[true, true, true, true, true, false, false, true, true, true, true, true, false, false, false, false] rfl rfl (any_of HT_.out (by kernel_rfl)) (fun _ _ _ h => h) (Or.inl ⟨by rfl, ?_⟩) ?_ ?_
          rotate_left
          · intro w'
            go_simp
            with_reducible rfl
          rotate_left
          · simp only [Act.put, List.setIfInBounds_toArray, List.set_cons_zero, List.set_cons_succ, i64_w, i32_w]
            rfl
          refine one_ (i := 5) (N := some 11) #[true, true, true, true, true, true, false, true, true, true, true, true, false, false, false, false] rfl rfl (one_of HT_.out (by kernel_rfl)) (by decide) (fun K hK => ?_)
          refine goes_ Tryd.func36 (by kernel_rfl) rfl #[.int .i64 (wrap64 ((rd_T37 l0 0).f0))] (by rfl) rfl rfl (by (try simp only [List.map_toArray, List.map_cons, List.map_nil]); first | done | rfl | (simp only [List.length_drop, List.length_take]; rfl)) ?_
          with_reducible refine (spec_Decimal.calls k (wrap64 ((rd_T37 l0 0).f0)) t144 _ A3.out).mono ?_
          rintro e w9 ⟨rfl, hb⟩
          refine ⟨_, rfl, ?_⟩
          have n0_ := Aside0.mk (below_step (by repeat (first | (with_reducible first | exact HB.out | apply below_alloc | apply pw_below_drewN | apply below_drew1) | exact HB.out)) hb)
          clear HB
          have HB := n0_
          clear n0_
          (try clear hb)
          (try clear hb2)
          (try clear hk)
          (try clear hi)
          refine hK.out _ _ ⟨((HB.out.cell (World.block_lt_of_cell? w _ hw143_0)).trans hw143_0), ((HB.out.cell (World.block_lt_of_cell? w _ hw143_1)).trans hw143_1), ((HB.out.cell (World.block_lt_of_cell? w _ hw143_2)).trans hw143_2), ((HB.out.cell (World.block_lt_of_cell? w _ hw145_0)).trans hw145_0), ((HB.out.cell (World.block_lt_of_cell? w _ hw145_1)).trans hw145_1), ((HB.out.cell (World.block_lt_of_cell? w _ hw145_2)).trans hw145_2)⟩ (fun hHeld => ?_)
          clear hK K
          refine norm_ (a' := ?_) ?_ ?_
          rotate_left
          · show Act.put _ (some 11) _ = _
            simp only [Act.put, List.setIfInBounds_toArray, List.set_cons_zero, List.set_cons_succ, i64_w, i32_w]
            rfl
          refine pure_ (i := 6) (N := some 12) (v := ?_) (a' := ?_) #[true, true, true, true, true, true, true, true, true, true, true, true, false, false, false, false] rfl rfl (any_of HT_.out (by kernel_rfl)) (fun _ _ _ h => h) (Or.inl ⟨by rfl, ?_⟩) ?_ ?_
          rotate_left
          · intro w'
            go_simp
            with_reducible rfl
          rotate_left
          · simp only [Act.put, List.setIfInBounds_toArray, List.set_cons_zero, List.set_cons_succ, i64_w, i32_w]
            rfl
          refine one_ (i := 12) (N := some 18) #[true, true, true, true, true, true, true, true, true, true, true, true, true, false, false, false] rfl rfl (one_of HT_.out (by kernel_rfl)) (by decide) (fun K hK => ?_)
          refine goes_ Tryd.func36 (by kernel_rfl) rfl #[.int .i64 (wrap64 ((rd_T37 l0 0).f1))] (by rfl) rfl rfl (by (try simp only [List.map_toArray, List.map_cons, List.map_nil]); first | done | rfl | (simp only [List.length_drop, List.length_take]; rfl)) ?_
          with_reducible refine (spec_Decimal.calls k (wrap64 ((rd_T37 l0 0).f1)) t146 _ A5.out).mono ?_
          rintro e w10 ⟨rfl, hb⟩
          refine ⟨_, rfl, ?_⟩
          have n0_ := Aside0.mk (below_step (by repeat (first | (with_reducible first | exact HB.out | apply below_alloc | apply pw_below_drewN | apply below_drew1) | exact HB.out)) hb)
          clear HB
          have HB := n0_
          clear n0_
          (try clear hb)
          (try clear hb2)
          (try clear hk)
          (try clear hi)
          refine hK.out _ _ ⟨((HB.out.cell (World.block_lt_of_cell? w _ hw143_0)).trans hw143_0), ((HB.out.cell (World.block_lt_of_cell? w _ hw143_1)).trans hw143_1), ((HB.out.cell (World.block_lt_of_cell? w _ hw143_2)).trans hw143_2), ((HB.out.cell (World.block_lt_of_cell? w _ hw145_0)).trans hw145_0), ((HB.out.cell (World.block_lt_of_cell? w _ hw145_1)).trans hw145_1), ((HB.out.cell (World.block_lt_of_cell? w _ hw145_2)).trans hw145_2)⟩ (fun hHeld => ?_)
          clear hK K
          refine norm_ (a' := ?_) ?_ ?_
          rotate_left
          · show Act.put _ (some 18) _ = _
            simp only [Act.put, List.setIfInBounds_toArray, List.set_cons_zero, List.set_cons_succ, i64_w, i32_w]
            rfl
          refine pure_ (i := 13) (N := some 19) (v := ?_) (a' := ?_) #[true, true, true, true, true, true, true, true, true, true, true, true, true, true, false, false] rfl rfl (any_of HT_.out (by kernel_rfl)) (fun _ _ _ h => h) (Or.inl ⟨by rfl, ?_⟩) ?_ ?_
          rotate_left
          · intro w'
            go_simp
            with_reducible rfl
          rotate_left
          · simp only [Act.put, List.setIfInBounds_toArray, List.set_cons_zero, List.set_cons_succ, i64_w, i32_w]
            rfl
          refine pure_ (i := 14) (N := some 20) (v := ?_) (a' := ?_) #[true, true, true, true, true, true, true, true, true, true, true, true, true, true, true, false] rfl rfl (any_of HT_.out (by kernel_rfl)) (fun _ _ _ h => h) (Or.inl ⟨by rfl, ?_⟩) ?_ ?_
          rotate_left
          · intro w'
            go_simp
            with_reducible rfl
          rotate_left
          · simp only [Act.put, List.setIfInBounds_toArray, List.set_cons_zero, List.set_cons_succ, i64_w, i32_w]
            rfl
          refine pure_ (i := 15) (N := some 3) (v := ?_) (a' := ?_) #[true, true, true, true, true, true, true, true, true, true, true, true, true, true, true, true] rfl rfl (any_of HT_.out (by kernel_rfl)) (fun _ _ _ h => h) (Or.inl ⟨by rfl, ?_⟩) ?_ ?_
          rotate_left
          · intro w'
            go_simp
            with_reducible rfl
          rotate_left
          · simp only [Act.put, List.setIfInBounds_toArray, List.set_cons_zero, List.set_cons_succ, i64_w, i32_w]
            rfl
          refine done_ (done_of HT_.out (by kernel_rfl)) ?_
          try go_wp2
          go_loopg [3, 4] k (fun kq v3 v4 w' => ∃ (x3_1 : ByteArray) (x4_1 : Int), v3 = .string x3_1 ∧ v4 = .int .i64 x4_1 ∧ Aside0 (spec_l01Text.l0 kq l0 x3_1 x4_1 = some r) ∧ Aside0 (kq ≤ k) ∧ Aside0 (Below w.heap.size w w'))
          case atStart => exact ⟨(((t144 ++ (⟨#[32]⟩ : ByteArray)) ++ t146) ++ (⟨#[10]⟩ : ByteArray)), (0), (by first | rfl | (simp; done) | (simp [*]; done) | (exact congrArg (Value.int .i64) (wrap_eq (by omega)))), (by first | rfl | (simp; done) | (simp [*]; done) | (exact congrArg (Value.int .i64) (wrap_eq (by omega)))), H', ⟨Nat.le_refl _⟩, ⟨by repeat (first | (with_reducible first | exact HB.out | apply below_alloc | apply pw_below_drewN | apply below_drew1) | exact HB.out)⟩⟩
          case round =>
            clear H'
            try clear c1
            try clear p1
            try clear q1
            try clear hx1
            try clear qi1
            try clear c2
            try clear c2b0
            try clear c2b1
            try clear p2
            try clear c3
            try clear c4
            try clear c4b0
            try clear c4b1
            try clear c4b2
            try clear c6
            try clear c6b0
            try clear c6b1
            try clear c6b2
            try clear p6
            try clear c7
            try clear c7b0
            try clear c7b1
            try clear c7b2
            try clear hx143_0
            try clear hx143_1
            try clear hx143_2
            try clear hx145_0
            try clear hx145_1
            try clear hx145_2
            try clear p143
            try clear p145
            try clear q143
            try clear q145
            obtain ⟨x3_1, x4_1, rfl, rfl, HA, HK1, HB⟩ := hrel
            cases gk with
            | zero => exact absurd HA.out (by simp [spec_l01Text.l0])
            | succ k1 =>
              have H := HA.out
              clear HA
              simp only [spec_l01Text.l0] at H
              by_cases c11 : 0 < (l0.length : Int)
              · rw [if_pos c11] at H
                have c11b0 : decide (0 < (l0.length : Int)) = true := decide_eq_true c11
                have c11b1 : decide (0 < l0.length) = true := decide_eq_true (by omega)
                clear c11
                by_cases c12 : x4_1 < (((rd_T37 l0 0).f2).length : Int)
                · rw [if_pos c12] at H
                  have c12b0 : decide (x4_1 < (((rd_T37 l0 0).f2).length : Int)) = true := decide_eq_true c12
                  clear c12
                  by_cases c13 : 0 ≤ x4_1
                  · rw [if_pos c13] at H
                    have c13b0 : decide (0 ≤ x4_1) = true := decide_eq_true c13
                    clear c13
                    replace H := Option.bind_eq_some_iff.mp H
                    obtain ⟨t151, A140, H⟩ := H
                    replace H : (if t151.size + 1 ≤ 9223372036854775807 then ((spec_Decimal.f k1 (wrap64 ((rd_T85 ((rd_T37 l0 0).f2) x4_1).f0.f1))).bind fun t153 => (if t151.size + 1 + t153.size ≤ 9223372036854775807 then (if t151.size + 1 + t153.size + 1 ≤ 9223372036854775807 then ((spec_l01Words.f).bind fun t154 => (if 0 ≤ ((rd_T85 ((rd_T37 l0 0).f2) x4_1).f1) then (if ((rd_T85 ((rd_T37 l0 0).f2) x4_1).f1) < (t154.length : Int) then (if t151.size + 1 + t153.size + 1 + (rdOf ByteArray.empty t154 ((rd_T85 ((rd_T37 l0 0).f2) x4_1).f1)).size ≤ 9223372036854775807 then (if t151.size + 1 + t153.size + 1 + (rdOf ByteArray.empty t154 ((rd_T85 ((rd_T37 l0 0).f2) x4_1).f1)).size + 1 ≤ 9223372036854775807 then ((spec_Decimal.f k1 (wrap64 ((rd_T85 ((rd_T37 l0 0).f2) x4_1).f2))).bind fun t160 => (if t151.size + 1 + t153.size + 1 + (rdOf ByteArray.empty t154 ((rd_T85 ((rd_T37 l0 0).f2) x4_1).f1)).size + 1 + t160.size ≤ 9223372036854775807 then (if t151.size + 1 + t153.size + 1 + (rdOf ByteArray.empty t154 ((rd_T85 ((rd_T37 l0 0).f2) x4_1).f1)).size + 1 + t160.size + 1 ≤ 9223372036854775807 then ((spec_Decimal.f k1 (wrap64 ((rd_T85 ((rd_T37 l0 0).f2) x4_1).f3))).bind fun t162 => (if t151.size + 1 + t153.size + 1 + (rdOf ByteArray.empty t154 ((rd_T85 ((rd_T37 l0 0).f2) x4_1).f1)).size + 1 + t160.size + 1 + t162.size ≤ 9223372036854775807 then (if t151.size + 1 + t153.size + 1 + (rdOf ByteArray.empty t154 ((rd_T85 ((rd_T37 l0 0).f2) x4_1).f1)).size + 1 + t160.size + 1 + t162.size + 1 ≤ 9223372036854775807 then (if x3_1.size + t151.size + 1 + t153.size + 1 + (rdOf ByteArray.empty t154 ((rd_T85 ((rd_T37 l0 0).f2) x4_1).f1)).size + 1 + t160.size + 1 + t162.size + 1 ≤ 9223372036854775807 then (spec_l01Text.l0 k1 l0 (x3_1 ++ (((((((((t151 ++ (⟨#[32]⟩ : ByteArray)) ++ t153) ++ (⟨#[32]⟩ : ByteArray)) ++ (rdOf ByteArray.empty t154 ((rd_T85 ((rd_T37 l0 0).f2) x4_1).f1))) ++ (⟨#[32]⟩ : ByteArray)) ++ t160) ++ (⟨#[32]⟩ : ByteArray)) ++ t162) ++ (⟨#[10]⟩ : ByteArray))) (wrap64 (x4_1 + 1))) else (none)) else (none)) else (none))) else (none)) else (none))) else (none)) else (none)) else (none)) else (none))) else (none)) else (none))) else (none)) = some r := H
                    have A14 := Aside0.mk A140
                    clear A140
                    by_cases c15 : t151.size + 1 ≤ 9223372036854775807
                    · rw [if_pos c15] at H
                      have c15b0 := eq_true c15
                      have c15b1 : decide (t151.size + 1 ≤ 9223372036854775807) = true := decide_eq_true c15
                      try have c15b2 : (9223372036854775807 < t151.size + 1) = False := eq_false (Nat.not_lt.2 c15)
                      replace H := Option.bind_eq_some_iff.mp H
                      obtain ⟨t153, A160, H⟩ := H
                      replace H : (if t151.size + 1 + t153.size ≤ 9223372036854775807 then (if t151.size + 1 + t153.size + 1 ≤ 9223372036854775807 then ((spec_l01Words.f).bind fun t154 => (if 0 ≤ ((rd_T85 ((rd_T37 l0 0).f2) x4_1).f1) then (if ((rd_T85 ((rd_T37 l0 0).f2) x4_1).f1) < (t154.length : Int) then (if t151.size + 1 + t153.size + 1 + (rdOf ByteArray.empty t154 ((rd_T85 ((rd_T37 l0 0).f2) x4_1).f1)).size ≤ 9223372036854775807 then (if t151.size + 1 + t153.size + 1 + (rdOf ByteArray.empty t154 ((rd_T85 ((rd_T37 l0 0).f2) x4_1).f1)).size + 1 ≤ 9223372036854775807 then ((spec_Decimal.f k1 (wrap64 ((rd_T85 ((rd_T37 l0 0).f2) x4_1).f2))).bind fun t160 => (if t151.size + 1 + t153.size + 1 + (rdOf ByteArray.empty t154 ((rd_T85 ((rd_T37 l0 0).f2) x4_1).f1)).size + 1 + t160.size ≤ 9223372036854775807 then (if t151.size + 1 + t153.size + 1 + (rdOf ByteArray.empty t154 ((rd_T85 ((rd_T37 l0 0).f2) x4_1).f1)).size + 1 + t160.size + 1 ≤ 9223372036854775807 then ((spec_Decimal.f k1 (wrap64 ((rd_T85 ((rd_T37 l0 0).f2) x4_1).f3))).bind fun t162 => (if t151.size + 1 + t153.size + 1 + (rdOf ByteArray.empty t154 ((rd_T85 ((rd_T37 l0 0).f2) x4_1).f1)).size + 1 + t160.size + 1 + t162.size ≤ 9223372036854775807 then (if t151.size + 1 + t153.size + 1 + (rdOf ByteArray.empty t154 ((rd_T85 ((rd_T37 l0 0).f2) x4_1).f1)).size + 1 + t160.size + 1 + t162.size + 1 ≤ 9223372036854775807 then (if x3_1.size + t151.size + 1 + t153.size + 1 + (rdOf ByteArray.empty t154 ((rd_T85 ((rd_T37 l0 0).f2) x4_1).f1)).size + 1 + t160.size + 1 + t162.size + 1 ≤ 9223372036854775807 then (spec_l01Text.l0 k1 l0 (x3_1 ++ (((((((((t151 ++ (⟨#[32]⟩ : ByteArray)) ++ t153) ++ (⟨#[32]⟩ : ByteArray)) ++ (rdOf ByteArray.empty t154 ((rd_T85 ((rd_T37 l0 0).f2) x4_1).f1))) ++ (⟨#[32]⟩ : ByteArray)) ++ t160) ++ (⟨#[32]⟩ : ByteArray)) ++ t162) ++ (⟨#[10]⟩ : ByteArray))) (wrap64 (x4_1 + 1))) else (none)) else (none)) else (none))) else (none)) else (none))) else (none)) else (none)) else (none)) else (none))) else (none)) else (none)) = some r := H
                      have A16 := Aside0.mk A160
                      clear A160
                      by_cases c17 : t151.size + 1 + t153.size ≤ 9223372036854775807
                      · rw [if_pos c17] at H
                        have c17b0 := eq_true c17
                        have c17b1 : decide (t151.size + 1 + t153.size ≤ 9223372036854775807) = true := decide_eq_true c17
                        try have c17b2 : (9223372036854775807 < t151.size + 1 + t153.size) = False := eq_false (Nat.not_lt.2 c17)
                        by_cases c18 : t151.size + 1 + t153.size + 1 ≤ 9223372036854775807
                        · rw [if_pos c18] at H
                          have c18b0 := eq_true c18
                          have c18b1 : decide (t151.size + 1 + t153.size + 1 ≤ 9223372036854775807) = true := decide_eq_true c18
                          try have c18b2 : (9223372036854775807 < t151.size + 1 + t153.size + 1) = False := eq_false (Nat.not_lt.2 c18)
                          replace H := Option.bind_eq_some_iff.mp H
                          obtain ⟨t154, A190, H⟩ := H
                          replace H : (if 0 ≤ ((rd_T85 ((rd_T37 l0 0).f2) x4_1).f1) then (if ((rd_T85 ((rd_T37 l0 0).f2) x4_1).f1) < (t154.length : Int) then (if t151.size + 1 + t153.size + 1 + (rdOf ByteArray.empty t154 ((rd_T85 ((rd_T37 l0 0).f2) x4_1).f1)).size ≤ 9223372036854775807 then (if t151.size + 1 + t153.size + 1 + (rdOf ByteArray.empty t154 ((rd_T85 ((rd_T37 l0 0).f2) x4_1).f1)).size + 1 ≤ 9223372036854775807 then ((spec_Decimal.f k1 (wrap64 ((rd_T85 ((rd_T37 l0 0).f2) x4_1).f2))).bind fun t160 => (if t151.size + 1 + t153.size + 1 + (rdOf ByteArray.empty t154 ((rd_T85 ((rd_T37 l0 0).f2) x4_1).f1)).size + 1 + t160.size ≤ 9223372036854775807 then (if t151.size + 1 + t153.size + 1 + (rdOf ByteArray.empty t154 ((rd_T85 ((rd_T37 l0 0).f2) x4_1).f1)).size + 1 + t160.size + 1 ≤ 9223372036854775807 then ((spec_Decimal.f k1 (wrap64 ((rd_T85 ((rd_T37 l0 0).f2) x4_1).f3))).bind fun t162 => (if t151.size + 1 + t153.size + 1 + (rdOf ByteArray.empty t154 ((rd_T85 ((rd_T37 l0 0).f2) x4_1).f1)).size + 1 + t160.size + 1 + t162.size ≤ 9223372036854775807 then (if t151.size + 1 + t153.size + 1 + (rdOf ByteArray.empty t154 ((rd_T85 ((rd_T37 l0 0).f2) x4_1).f1)).size + 1 + t160.size + 1 + t162.size + 1 ≤ 9223372036854775807 then (if x3_1.size + t151.size + 1 + t153.size + 1 + (rdOf ByteArray.empty t154 ((rd_T85 ((rd_T37 l0 0).f2) x4_1).f1)).size + 1 + t160.size + 1 + t162.size + 1 ≤ 9223372036854775807 then (spec_l01Text.l0 k1 l0 (x3_1 ++ (((((((((t151 ++ (⟨#[32]⟩ : ByteArray)) ++ t153) ++ (⟨#[32]⟩ : ByteArray)) ++ (rdOf ByteArray.empty t154 ((rd_T85 ((rd_T37 l0 0).f2) x4_1).f1))) ++ (⟨#[32]⟩ : ByteArray)) ++ t160) ++ (⟨#[32]⟩ : ByteArray)) ++ t162) ++ (⟨#[10]⟩ : ByteArray))) (wrap64 (x4_1 + 1))) else (none)) else (none)) else (none))) else (none)) else (none))) else (none)) else (none)) else (none)) else (none)) = some r := H
                          have A19 := Aside0.mk A190
                          clear A190
                          by_cases c20 : 0 ≤ ((rd_T85 ((rd_T37 l0 0).f2) x4_1).f1)
                          · rw [if_pos c20] at H
                            have c20b0 : decide (0 ≤ ((rd_T85 ((rd_T37 l0 0).f2) x4_1).f1)) = true := decide_eq_true c20
                            clear c20
                            by_cases c21 : ((rd_T85 ((rd_T37 l0 0).f2) x4_1).f1) < (t154.length : Int)
                            · rw [if_pos c21] at H
                              have c21b0 : decide (((rd_T85 ((rd_T37 l0 0).f2) x4_1).f1) < (t154.length : Int)) = true := decide_eq_true c21
                              clear c21
                              by_cases c22 : t151.size + 1 + t153.size + 1 + (rdOf ByteArray.empty t154 ((rd_T85 ((rd_T37 l0 0).f2) x4_1).f1)).size ≤ 9223372036854775807
                              · rw [if_pos c22] at H
                                have c22b0 := eq_true c22
                                have c22b1 : decide (t151.size + 1 + t153.size + 1 + (rdOf ByteArray.empty t154 ((rd_T85 ((rd_T37 l0 0).f2) x4_1).f1)).size ≤ 9223372036854775807) = true := decide_eq_true c22
                                try have c22b2 : (9223372036854775807 < t151.size + 1 + t153.size + 1 + (rdOf ByteArray.empty t154 ((rd_T85 ((rd_T37 l0 0).f2) x4_1).f1)).size) = False := eq_false (Nat.not_lt.2 c22)
                                by_cases c23 : t151.size + 1 + t153.size + 1 + (rdOf ByteArray.empty t154 ((rd_T85 ((rd_T37 l0 0).f2) x4_1).f1)).size + 1 ≤ 9223372036854775807
                                · rw [if_pos c23] at H
                                  have c23b0 := eq_true c23
                                  have c23b1 : decide (t151.size + 1 + t153.size + 1 + (rdOf ByteArray.empty t154 ((rd_T85 ((rd_T37 l0 0).f2) x4_1).f1)).size + 1 ≤ 9223372036854775807) = true := decide_eq_true c23
                                  try have c23b2 : (9223372036854775807 < t151.size + 1 + t153.size + 1 + (rdOf ByteArray.empty t154 ((rd_T85 ((rd_T37 l0 0).f2) x4_1).f1)).size + 1) = False := eq_false (Nat.not_lt.2 c23)
                                  replace H := Option.bind_eq_some_iff.mp H
                                  obtain ⟨t160, A240, H⟩ := H
                                  replace H : (if t151.size + 1 + t153.size + 1 + (rdOf ByteArray.empty t154 ((rd_T85 ((rd_T37 l0 0).f2) x4_1).f1)).size + 1 + t160.size ≤ 9223372036854775807 then (if t151.size + 1 + t153.size + 1 + (rdOf ByteArray.empty t154 ((rd_T85 ((rd_T37 l0 0).f2) x4_1).f1)).size + 1 + t160.size + 1 ≤ 9223372036854775807 then ((spec_Decimal.f k1 (wrap64 ((rd_T85 ((rd_T37 l0 0).f2) x4_1).f3))).bind fun t162 => (if t151.size + 1 + t153.size + 1 + (rdOf ByteArray.empty t154 ((rd_T85 ((rd_T37 l0 0).f2) x4_1).f1)).size + 1 + t160.size + 1 + t162.size ≤ 9223372036854775807 then (if t151.size + 1 + t153.size + 1 + (rdOf ByteArray.empty t154 ((rd_T85 ((rd_T37 l0 0).f2) x4_1).f1)).size + 1 + t160.size + 1 + t162.size + 1 ≤ 9223372036854775807 then (if x3_1.size + t151.size + 1 + t153.size + 1 + (rdOf ByteArray.empty t154 ((rd_T85 ((rd_T37 l0 0).f2) x4_1).f1)).size + 1 + t160.size + 1 + t162.size + 1 ≤ 9223372036854775807 then (spec_l01Text.l0 k1 l0 (x3_1 ++ (((((((((t151 ++ (⟨#[32]⟩ : ByteArray)) ++ t153) ++ (⟨#[32]⟩ : ByteArray)) ++ (rdOf ByteArray.empty t154 ((rd_T85 ((rd_T37 l0 0).f2) x4_1).f1))) ++ (⟨#[32]⟩ : ByteArray)) ++ t160) ++ (⟨#[32]⟩ : ByteArray)) ++ t162) ++ (⟨#[10]⟩ : ByteArray))) (wrap64 (x4_1 + 1))) else (none)) else (none)) else (none))) else (none)) else (none)) = some r := H
                                  have A24 := Aside0.mk A240
                                  clear A240
                                  by_cases c25 : t151.size + 1 + t153.size + 1 + (rdOf ByteArray.empty t154 ((rd_T85 ((rd_T37 l0 0).f2) x4_1).f1)).size + 1 + t160.size ≤ 9223372036854775807
                                  · rw [if_pos c25] at H
                                    have c25b0 := eq_true c25
                                    have c25b1 : decide (t151.size + 1 + t153.size + 1 + (rdOf ByteArray.empty t154 ((rd_T85 ((rd_T37 l0 0).f2) x4_1).f1)).size + 1 + t160.size ≤ 9223372036854775807) = true := decide_eq_true c25
                                    try have c25b2 : (9223372036854775807 < t151.size + 1 + t153.size + 1 + (rdOf ByteArray.empty t154 ((rd_T85 ((rd_T37 l0 0).f2) x4_1).f1)).size + 1 + t160.size) = False := eq_false (Nat.not_lt.2 c25)
                                    by_cases c26 : t151.size + 1 + t153.size + 1 + (rdOf ByteArray.empty t154 ((rd_T85 ((rd_T37 l0 0).f2) x4_1).f1)).size + 1 + t160.size + 1 ≤ 9223372036854775807
                                    · rw [if_pos c26] at H
                                      have c26b0 := eq_true c26
                                      have c26b1 : decide (t151.size + 1 + t153.size + 1 + (rdOf ByteArray.empty t154 ((rd_T85 ((rd_T37 l0 0).f2) x4_1).f1)).size + 1 + t160.size + 1 ≤ 9223372036854775807) = true := decide_eq_true c26
                                      try have c26b2 : (9223372036854775807 < t151.size + 1 + t153.size + 1 + (rdOf ByteArray.empty t154 ((rd_T85 ((rd_T37 l0 0).f2) x4_1).f1)).size + 1 + t160.size + 1) = False := eq_false (Nat.not_lt.2 c26)
                                      replace H := Option.bind_eq_some_iff.mp H
                                      obtain ⟨t162, A270, H⟩ := H
                                      replace H : (if t151.size + 1 + t153.size + 1 + (rdOf ByteArray.empty t154 ((rd_T85 ((rd_T37 l0 0).f2) x4_1).f1)).size + 1 + t160.size + 1 + t162.size ≤ 9223372036854775807 then (if t151.size + 1 + t153.size + 1 + (rdOf ByteArray.empty t154 ((rd_T85 ((rd_T37 l0 0).f2) x4_1).f1)).size + 1 + t160.size + 1 + t162.size + 1 ≤ 9223372036854775807 then (if x3_1.size + t151.size + 1 + t153.size + 1 + (rdOf ByteArray.empty t154 ((rd_T85 ((rd_T37 l0 0).f2) x4_1).f1)).size + 1 + t160.size + 1 + t162.size + 1 ≤ 9223372036854775807 then (spec_l01Text.l0 k1 l0 (x3_1 ++ (((((((((t151 ++ (⟨#[32]⟩ : ByteArray)) ++ t153) ++ (⟨#[32]⟩ : ByteArray)) ++ (rdOf ByteArray.empty t154 ((rd_T85 ((rd_T37 l0 0).f2) x4_1).f1))) ++ (⟨#[32]⟩ : ByteArray)) ++ t160) ++ (⟨#[32]⟩ : ByteArray)) ++ t162) ++ (⟨#[10]⟩ : ByteArray))) (wrap64 (x4_1 + 1))) else (none)) else (none)) else (none)) = some r := H
                                      have A27 := Aside0.mk A270
                                      clear A270
                                      by_cases c28 : t151.size + 1 + t153.size + 1 + (rdOf ByteArray.empty t154 ((rd_T85 ((rd_T37 l0 0).f2) x4_1).f1)).size + 1 + t160.size + 1 + t162.size ≤ 9223372036854775807
                                      · rw [if_pos c28] at H
                                        have c28b0 := eq_true c28
                                        have c28b1 : decide (t151.size + 1 + t153.size + 1 + (rdOf ByteArray.empty t154 ((rd_T85 ((rd_T37 l0 0).f2) x4_1).f1)).size + 1 + t160.size + 1 + t162.size ≤ 9223372036854775807) = true := decide_eq_true c28
                                        try have c28b2 : (9223372036854775807 < t151.size + 1 + t153.size + 1 + (rdOf ByteArray.empty t154 ((rd_T85 ((rd_T37 l0 0).f2) x4_1).f1)).size + 1 + t160.size + 1 + t162.size) = False := eq_false (Nat.not_lt.2 c28)
                                        by_cases c29 : t151.size + 1 + t153.size + 1 + (rdOf ByteArray.empty t154 ((rd_T85 ((rd_T37 l0 0).f2) x4_1).f1)).size + 1 + t160.size + 1 + t162.size + 1 ≤ 9223372036854775807
                                        · rw [if_pos c29] at H
                                          have c29b0 := eq_true c29
                                          have c29b1 : decide (t151.size + 1 + t153.size + 1 + (rdOf ByteArray.empty t154 ((rd_T85 ((rd_T37 l0 0).f2) x4_1).f1)).size + 1 + t160.size + 1 + t162.size + 1 ≤ 9223372036854775807) = true := decide_eq_true c29
                                          try have c29b2 : (9223372036854775807 < t151.size + 1 + t153.size + 1 + (rdOf ByteArray.empty t154 ((rd_T85 ((rd_T37 l0 0).f2) x4_1).f1)).size + 1 + t160.size + 1 + t162.size + 1) = False := eq_false (Nat.not_lt.2 c29)
                                          by_cases c30 : x3_1.size + t151.size + 1 + t153.size + 1 + (rdOf ByteArray.empty t154 ((rd_T85 ((rd_T37 l0 0).f2) x4_1).f1)).size + 1 + t160.size + 1 + t162.size + 1 ≤ 9223372036854775807
                                          · rw [if_pos c30] at H
                                            have c30b0 := eq_true c30
                                            have c30b1 : decide (x3_1.size + t151.size + 1 + t153.size + 1 + (rdOf ByteArray.empty t154 ((rd_T85 ((rd_T37 l0 0).f2) x4_1).f1)).size + 1 + t160.size + 1 + t162.size + 1 ≤ 9223372036854775807) = true := decide_eq_true c30
                                            try have c30b2 : (9223372036854775807 < x3_1.size + t151.size + 1 + t153.size + 1 + (rdOf ByteArray.empty t154 ((rd_T85 ((rd_T37 l0 0).f2) x4_1).f1)).size + 1 + t160.size + 1 + t162.size + 1) = False := eq_false (Nat.not_lt.2 c30)
                                            have c30b3 : (9223372036854775807 < x3_1.size + (t151.size + 1 + t153.size + 1 + (rdOf ByteArray.empty t154 ((rd_T85 ((rd_T37 l0 0).f2) x4_1).f1)).size + 1 + t160.size + 1 + t162.size + 1)) = False := eq_false (Nat.not_lt.2 (by simpa only [Nat.add_assoc] using c30))
                                            have H' := Aside0.mk H
                                            clear H
                                            have p147 : 0 ≤ (0 : Int) := (by omega)
                                            have q147 : 0 < (l0.length : Int) := of_decide_eq_true (by first | (with_reducible assumption) | assumption)
                                            obtain ⟨ad147, A147_2, c147_2, e147, hx147_0, hx147_1, hx147_2, hl147_2, hi147_2⟩ := at_T37 HR0.out 0 p147 q147
                                            obtain rfl : adp0 = ad147 := (by injection e147)
                                            have qi147 : (0 < l0.length) = True := eq_true (by omega)
                                            (try rw [show ((0 : Int)).toNat = 0 from rfl] at hx147_0)
                                            (try rw [show 0 * 3 = 0 from rfl] at hx147_0)
                                            (try rw [Addr.add_zero'] at hx147_0)
                                            (try rw [show ((0 : Int)).toNat = 0 from rfl] at hx147_1)
                                            (try rw [show 0 * 3 = 0 from rfl] at hx147_1)
                                            (try rw [Addr.add_zero'] at hx147_1)
                                            (try rw [show ((0 : Int)).toNat = 0 from rfl] at hx147_2)
                                            (try rw [show 0 * 3 = 0 from rfl] at hx147_2)
                                            (try rw [Addr.add_zero'] at hx147_2)
                                            replace hx147_0 := (HB.out.cell (World.block_lt_of_cell? w _ hx147_0)).trans hx147_0
                                            replace hx147_1 := (HB.out.cell (World.block_lt_of_cell? w _ hx147_1)).trans hx147_1
                                            replace hx147_2 := (HB.out.cell (World.block_lt_of_cell? w _ hx147_2)).trans hx147_2
                                            have HR147_2 := Aside0.mk hi147_2
                                            have HC147_2 := Aside0.mk hl147_2
                                            clear hi147_2 hl147_2
                                            replace p147 := eq_true p147
                                            replace q147 := eq_true q147
                                            have p148 : 0 ≤ (0 : Int) := (by omega)
                                            have q148 : 0 < (l0.length : Int) := of_decide_eq_true (by first | (with_reducible assumption) | assumption)
                                            obtain ⟨ad148, A148_2, c148_2, e148, hx148_0, hx148_1, hx148_2, hl148_2, hi148_2⟩ := at_T37 HR0.out 0 p148 q148
                                            obtain rfl : adp0 = ad148 := (by injection e148)
                                            have qi148 : (0 < l0.length) = True := eq_true (by omega)
                                            (try rw [show ((0 : Int)).toNat = 0 from rfl] at hx148_0)
                                            (try rw [show 0 * 3 = 0 from rfl] at hx148_0)
                                            (try rw [Addr.add_zero'] at hx148_0)
                                            (try rw [show ((0 : Int)).toNat = 0 from rfl] at hx148_1)
                                            (try rw [show 0 * 3 = 0 from rfl] at hx148_1)
                                            (try rw [Addr.add_zero'] at hx148_1)
                                            (try rw [show ((0 : Int)).toNat = 0 from rfl] at hx148_2)
                                            (try rw [show 0 * 3 = 0 from rfl] at hx148_2)
                                            (try rw [Addr.add_zero'] at hx148_2)
                                            replace hx148_0 := (HB.out.cell (World.block_lt_of_cell? w _ hx148_0)).trans hx148_0
                                            replace hx148_1 := (HB.out.cell (World.block_lt_of_cell? w _ hx148_1)).trans hx148_1
                                            replace hx148_2 := (HB.out.cell (World.block_lt_of_cell? w _ hx148_2)).trans hx148_2
                                            have HR148_2 := Aside0.mk hi148_2
                                            have HC148_2 := Aside0.mk hl148_2
                                            clear hi148_2 hl148_2
                                            replace p148 := eq_true p148
                                            replace q148 := eq_true q148
                                            have ea_ := Option.some.inj (hx147_2.symm.trans hx148_2)
                                            injection ea_ with ea_ en_ ec_
                                            subst ea_
                                            subst ec_
                                            clear en_
                                            have p149 : 0 ≤ (x4_1 : Int) := of_decide_eq_true (by first | (with_reducible assumption) | assumption)
                                            have q149 : x4_1 < (((rd_T37 l0 0).f2).length : Int) := of_decide_eq_true (by first | (with_reducible assumption) | assumption)
                                            obtain ⟨ad149, e149, hx149_0, hx149_1, hx149_2, hx149_3, hx149_4⟩ := at_T85 HR148_2.out x4_1 p149 q149
                                            cases e149
                                            replace hx149_0 := (HB.out.cell (World.block_lt_of_cell? w _ hx149_0)).trans hx149_0
                                            replace hx149_1 := (HB.out.cell (World.block_lt_of_cell? w _ hx149_1)).trans hx149_1
                                            replace hx149_2 := (HB.out.cell (World.block_lt_of_cell? w _ hx149_2)).trans hx149_2
                                            replace hx149_3 := (HB.out.cell (World.block_lt_of_cell? w _ hx149_3)).trans hx149_3
                                            replace hx149_4 := (HB.out.cell (World.block_lt_of_cell? w _ hx149_4)).trans hx149_4
                                            replace p149 := eq_true p149
                                            replace q149 := eq_true q149
                                            try go_wp2
                                            have n0_ := Aside0.mk (below_drew1 HB.out)
                                            clear HB
                                            have HB := n0_
                                            clear n0_
                                            have p150 : 0 ≤ (x4_1 : Int) := of_decide_eq_true (by first | (with_reducible assumption) | assumption)
                                            have q150 : x4_1 < (((rd_T37 l0 0).f2).length : Int) := of_decide_eq_true (by first | (with_reducible assumption) | assumption)
                                            obtain ⟨ad150, e150, hx150_0, hx150_1, hx150_2, hx150_3, hx150_4⟩ := at_T85 HR148_2.out x4_1 p150 q150
                                            have hw150_4 := hx150_4
                                            have hw150_3 := hx150_3
                                            have hw150_2 := hx150_2
                                            have hw150_1 := hx150_1
                                            have hw150_0 := hx150_0
                                            obtain rfl : ad149 = ad150 := (by injection e150)
                                            replace hx150_0 := (HB.out.cell (World.block_lt_of_cell? w _ hx150_0)).trans hx150_0
                                            replace hx150_1 := (HB.out.cell (World.block_lt_of_cell? w _ hx150_1)).trans hx150_1
                                            replace hx150_2 := (HB.out.cell (World.block_lt_of_cell? w _ hx150_2)).trans hx150_2
                                            replace hx150_3 := (HB.out.cell (World.block_lt_of_cell? w _ hx150_3)).trans hx150_3
                                            replace hx150_4 := (HB.out.cell (World.block_lt_of_cell? w _ hx150_4)).trans hx150_4
                                            replace p150 := eq_true p150
                                            replace q150 := eq_true q150
                                            have p152 : 0 ≤ (x4_1 : Int) := of_decide_eq_true (by first | (with_reducible assumption) | assumption)
                                            have q152 : x4_1 < (((rd_T37 l0 0).f2).length : Int) := of_decide_eq_true (by first | (with_reducible assumption) | assumption)
                                            obtain ⟨ad152, e152, hx152_0, hx152_1, hx152_2, hx152_3, hx152_4⟩ := at_T85 HR148_2.out x4_1 p152 q152
                                            have hw152_4 := hx152_4
                                            have hw152_3 := hx152_3
                                            have hw152_2 := hx152_2
                                            have hw152_1 := hx152_1
                                            have hw152_0 := hx152_0
                                            obtain rfl : ad149 = ad152 := (by injection e152)
                                            replace hx152_0 := (HB.out.cell (World.block_lt_of_cell? w _ hx152_0)).trans hx152_0
                                            replace hx152_1 := (HB.out.cell (World.block_lt_of_cell? w _ hx152_1)).trans hx152_1
                                            replace hx152_2 := (HB.out.cell (World.block_lt_of_cell? w _ hx152_2)).trans hx152_2
                                            replace hx152_3 := (HB.out.cell (World.block_lt_of_cell? w _ hx152_3)).trans hx152_3
                                            replace hx152_4 := (HB.out.cell (World.block_lt_of_cell? w _ hx152_4)).trans hx152_4
                                            replace p152 := eq_true p152
                                            replace q152 := eq_true q152
                                            have p157 : 0 ≤ (x4_1 : Int) := of_decide_eq_true (by first | (with_reducible assumption) | assumption)
                                            have q157 : x4_1 < (((rd_T37 l0 0).f2).length : Int) := of_decide_eq_true (by first | (with_reducible assumption) | assumption)
                                            obtain ⟨ad157, e157, hx157_0, hx157_1, hx157_2, hx157_3, hx157_4⟩ := at_T85 HR148_2.out x4_1 p157 q157
                                            have hw157_4 := hx157_4
                                            have hw157_3 := hx157_3
                                            have hw157_2 := hx157_2
                                            have hw157_1 := hx157_1
                                            have hw157_0 := hx157_0
                                            obtain rfl : ad149 = ad157 := (by injection e157)
                                            replace hx157_0 := (HB.out.cell (World.block_lt_of_cell? w _ hx157_0)).trans hx157_0
                                            replace hx157_1 := (HB.out.cell (World.block_lt_of_cell? w _ hx157_1)).trans hx157_1
                                            replace hx157_2 := (HB.out.cell (World.block_lt_of_cell? w _ hx157_2)).trans hx157_2
                                            replace hx157_3 := (HB.out.cell (World.block_lt_of_cell? w _ hx157_3)).trans hx157_3
                                            replace hx157_4 := (HB.out.cell (World.block_lt_of_cell? w _ hx157_4)).trans hx157_4
                                            replace p157 := eq_true p157
                                            replace q157 := eq_true q157
                                            have p159 : 0 ≤ (x4_1 : Int) := of_decide_eq_true (by first | (with_reducible assumption) | assumption)
                                            have q159 : x4_1 < (((rd_T37 l0 0).f2).length : Int) := of_decide_eq_true (by first | (with_reducible assumption) | assumption)
                                            obtain ⟨ad159, e159, hx159_0, hx159_1, hx159_2, hx159_3, hx159_4⟩ := at_T85 HR148_2.out x4_1 p159 q159
                                            have hw159_4 := hx159_4
                                            have hw159_3 := hx159_3
                                            have hw159_2 := hx159_2
                                            have hw159_1 := hx159_1
                                            have hw159_0 := hx159_0
                                            obtain rfl : ad149 = ad159 := (by injection e159)
                                            replace hx159_0 := (HB.out.cell (World.block_lt_of_cell? w _ hx159_0)).trans hx159_0
                                            replace hx159_1 := (HB.out.cell (World.block_lt_of_cell? w _ hx159_1)).trans hx159_1
                                            replace hx159_2 := (HB.out.cell (World.block_lt_of_cell? w _ hx159_2)).trans hx159_2
                                            replace hx159_3 := (HB.out.cell (World.block_lt_of_cell? w _ hx159_3)).trans hx159_3
                                            replace hx159_4 := (HB.out.cell (World.block_lt_of_cell? w _ hx159_4)).trans hx159_4
                                            replace p159 := eq_true p159
                                            replace q159 := eq_true q159
                                            have p161 : 0 ≤ (x4_1 : Int) := of_decide_eq_true (by first | (with_reducible assumption) | assumption)
                                            have q161 : x4_1 < (((rd_T37 l0 0).f2).length : Int) := of_decide_eq_true (by first | (with_reducible assumption) | assumption)
                                            obtain ⟨ad161, e161, hx161_0, hx161_1, hx161_2, hx161_3, hx161_4⟩ := at_T85 HR148_2.out x4_1 p161 q161
                                            have hw161_4 := hx161_4
                                            have hw161_3 := hx161_3
                                            have hw161_2 := hx161_2
                                            have hw161_1 := hx161_1
                                            have hw161_0 := hx161_0
                                            obtain rfl : ad149 = ad161 := (by injection e161)
                                            replace hx161_0 := (HB.out.cell (World.block_lt_of_cell? w _ hx161_0)).trans hx161_0
                                            replace hx161_1 := (HB.out.cell (World.block_lt_of_cell? w _ hx161_1)).trans hx161_1
                                            replace hx161_2 := (HB.out.cell (World.block_lt_of_cell? w _ hx161_2)).trans hx161_2
                                            replace hx161_3 := (HB.out.cell (World.block_lt_of_cell? w _ hx161_3)).trans hx161_3
                                            replace hx161_4 := (HB.out.cell (World.block_lt_of_cell? w _ hx161_4)).trans hx161_4
                                            replace p161 := eq_true p161
                                            replace q161 := eq_true q161
                                            refine start_ (n := 45) (S := fun w' => w'.cell? (ad149.add ((x4_1).toNat * 5)) = some (.int .i8 ((rd_T85 ((rd_T37 l0 0).f2) x4_1).f0.f0)) ∧ w'.cell? ⟨(ad149.add ((x4_1).toNat * 5)).block, (ad149.add ((x4_1).toNat * 5)).off + 1, none⟩ = some (.int .i8 ((rd_T85 ((rd_T37 l0 0).f2) x4_1).f0.f1)) ∧ w'.cell? ⟨(ad149.add ((x4_1).toNat * 5)).block, (ad149.add ((x4_1).toNat * 5)).off + 2, none⟩ = some (.int .i8 ((rd_T85 ((rd_T37 l0 0).f2) x4_1).f1)) ∧ w'.cell? ⟨(ad149.add ((x4_1).toNat * 5)).block, (ad149.add ((x4_1).toNat * 5)).off + 3, none⟩ = some (.int .i8 ((rd_T85 ((rd_T37 l0 0).f2) x4_1).f2)) ∧ w'.cell? ⟨(ad149.add ((x4_1).toNat * 5)).block, (ad149.add ((x4_1).toNat * 5)).off + 4, none⟩ = some (.int .i8 ((rd_T85 ((rd_T37 l0 0).f2) x4_1).f3)) ∧ w'.cell? (ad149.add ((x4_1).toNat * 5)) = some (.int .i8 ((rd_T85 ((rd_T37 l0 0).f2) x4_1).f0.f0)) ∧ w'.cell? ⟨(ad149.add ((x4_1).toNat * 5)).block, (ad149.add ((x4_1).toNat * 5)).off + 1, none⟩ = some (.int .i8 ((rd_T85 ((rd_T37 l0 0).f2) x4_1).f0.f1)) ∧ w'.cell? ⟨(ad149.add ((x4_1).toNat * 5)).block, (ad149.add ((x4_1).toNat * 5)).off + 2, none⟩ = some (.int .i8 ((rd_T85 ((rd_T37 l0 0).f2) x4_1).f1)) ∧ w'.cell? ⟨(ad149.add ((x4_1).toNat * 5)).block, (ad149.add ((x4_1).toNat * 5)).off + 3, none⟩ = some (.int .i8 ((rd_T85 ((rd_T37 l0 0).f2) x4_1).f2)) ∧ w'.cell? ⟨(ad149.add ((x4_1).toNat * 5)).block, (ad149.add ((x4_1).toNat * 5)).off + 4, none⟩ = some (.int .i8 ((rd_T85 ((rd_T37 l0 0).f2) x4_1).f3)) ∧ w'.cell? (ad149.add ((x4_1).toNat * 5)) = some (.int .i8 ((rd_T85 ((rd_T37 l0 0).f2) x4_1).f0.f0)) ∧ w'.cell? ⟨(ad149.add ((x4_1).toNat * 5)).block, (ad149.add ((x4_1).toNat * 5)).off + 1, none⟩ = some (.int .i8 ((rd_T85 ((rd_T37 l0 0).f2) x4_1).f0.f1)) ∧ w'.cell? ⟨(ad149.add ((x4_1).toNat * 5)).block, (ad149.add ((x4_1).toNat * 5)).off + 2, none⟩ = some (.int .i8 ((rd_T85 ((rd_T37 l0 0).f2) x4_1).f1)) ∧ w'.cell? ⟨(ad149.add ((x4_1).toNat * 5)).block, (ad149.add ((x4_1).toNat * 5)).off + 3, none⟩ = some (.int .i8 ((rd_T85 ((rd_T37 l0 0).f2) x4_1).f2)) ∧ w'.cell? ⟨(ad149.add ((x4_1).toNat * 5)).block, (ad149.add ((x4_1).toNat * 5)).off + 4, none⟩ = some (.int .i8 ((rd_T85 ((rd_T37 l0 0).f2) x4_1).f3)) ∧ w'.cell? (ad149.add ((x4_1).toNat * 5)) = some (.int .i8 ((rd_T85 ((rd_T37 l0 0).f2) x4_1).f0.f0)) ∧ w'.cell? ⟨(ad149.add ((x4_1).toNat * 5)).block, (ad149.add ((x4_1).toNat * 5)).off + 1, none⟩ = some (.int .i8 ((rd_T85 ((rd_T37 l0 0).f2) x4_1).f0.f1)) ∧ w'.cell? ⟨(ad149.add ((x4_1).toNat * 5)).block, (ad149.add ((x4_1).toNat * 5)).off + 2, none⟩ = some (.int .i8 ((rd_T85 ((rd_T37 l0 0).f2) x4_1).f1)) ∧ w'.cell? ⟨(ad149.add ((x4_1).toNat * 5)).block, (ad149.add ((x4_1).toNat * 5)).off + 3, none⟩ = some (.int .i8 ((rd_T85 ((rd_T37 l0 0).f2) x4_1).f2)) ∧ w'.cell? ⟨(ad149.add ((x4_1).toNat * 5)).block, (ad149.add ((x4_1).toNat * 5)).off + 4, none⟩ = some (.int .i8 ((rd_T85 ((rd_T37 l0 0).f2) x4_1).f3)) ∧ w'.cell? (ad149.add ((x4_1).toNat * 5)) = some (.int .i8 ((rd_T85 ((rd_T37 l0 0).f2) x4_1).f0.f0)) ∧ w'.cell? ⟨(ad149.add ((x4_1).toNat * 5)).block, (ad149.add ((x4_1).toNat * 5)).off + 1, none⟩ = some (.int .i8 ((rd_T85 ((rd_T37 l0 0).f2) x4_1).f0.f1)) ∧ w'.cell? ⟨(ad149.add ((x4_1).toNat * 5)).block, (ad149.add ((x4_1).toNat * 5)).off + 2, none⟩ = some (.int .i8 ((rd_T85 ((rd_T37 l0 0).f2) x4_1).f1)) ∧ w'.cell? ⟨(ad149.add ((x4_1).toNat * 5)).block, (ad149.add ((x4_1).toNat * 5)).off + 3, none⟩ = some (.int .i8 ((rd_T85 ((rd_T37 l0 0).f2) x4_1).f2)) ∧ w'.cell? ⟨(ad149.add ((x4_1).toNat * 5)).block, (ad149.add ((x4_1).toNat * 5)).off + 4, none⟩ = some (.int .i8 ((rd_T85 ((rd_T37 l0 0).f2) x4_1).f3))) (ds := []) #[false, false, false, false, false, false, false, false, false, false, false, false, false, false, false, false, false, false, false, false, false, false, false, false, false, false, false, false, false, false, false, false, false, false, false, false, false, false, false, false, false, false, false, false, false] (by kernel_rfl) rfl rfl ⟨((HB.out.cell (World.block_lt_of_cell? w _ hw150_0)).trans hw150_0), ((HB.out.cell (World.block_lt_of_cell? w _ hw150_1)).trans hw150_1), ((HB.out.cell (World.block_lt_of_cell? w _ hw150_2)).trans hw150_2), ((HB.out.cell (World.block_lt_of_cell? w _ hw150_3)).trans hw150_3), ((HB.out.cell (World.block_lt_of_cell? w _ hw150_4)).trans hw150_4), ((HB.out.cell (World.block_lt_of_cell? w _ hw152_0)).trans hw152_0), ((HB.out.cell (World.block_lt_of_cell? w _ hw152_1)).trans hw152_1), ((HB.out.cell (World.block_lt_of_cell? w _ hw152_2)).trans hw152_2), ((HB.out.cell (World.block_lt_of_cell? w _ hw152_3)).trans hw152_3), ((HB.out.cell (World.block_lt_of_cell? w _ hw152_4)).trans hw152_4), ((HB.out.cell (World.block_lt_of_cell? w _ hw157_0)).trans hw157_0), ((HB.out.cell (World.block_lt_of_cell? w _ hw157_1)).trans hw157_1), ((HB.out.cell (World.block_lt_of_cell? w _ hw157_2)).trans hw157_2), ((HB.out.cell (World.block_lt_of_cell? w _ hw157_3)).trans hw157_3), ((HB.out.cell (World.block_lt_of_cell? w _ hw157_4)).trans hw157_4), ((HB.out.cell (World.block_lt_of_cell? w _ hw159_0)).trans hw159_0), ((HB.out.cell (World.block_lt_of_cell? w _ hw159_1)).trans hw159_1), ((HB.out.cell (World.block_lt_of_cell? w _ hw159_2)).trans hw159_2), ((HB.out.cell (World.block_lt_of_cell? w _ hw159_3)).trans hw159_3), ((HB.out.cell (World.block_lt_of_cell? w _ hw159_4)).trans hw159_4), ((HB.out.cell (World.block_lt_of_cell? w _ hw161_0)).trans hw161_0), ((HB.out.cell (World.block_lt_of_cell? w _ hw161_1)).trans hw161_1), ((HB.out.cell (World.block_lt_of_cell? w _ hw161_2)).trans hw161_2), ((HB.out.cell (World.block_lt_of_cell? w _ hw161_3)).trans hw161_3), ((HB.out.cell (World.block_lt_of_cell? w _ hw161_4)).trans hw161_4)⟩ (fun hHeld => ?_); refine with_tabW spec_l01Text.tab6 spec_l01Text.bits6 (fun HT_ HW_ => ?_)
                                            generalize wr.drew = w31 at HB hx150_0 hx150_1 hx150_2 hx150_3 hx150_4 hx152_0 hx152_1 hx152_2 hx152_3 hx152_4 hx157_0 hx157_1 hx157_2 hx157_3 hx157_4 hx159_0 hx159_1 hx159_2 hx159_3 hx159_4 hx161_0 hx161_1 hx161_2 hx161_3 hx161_4 hHeld ⊢
                                            refine pure_ (i := 0) (N := some 36) (v := ?_) (a' := ?_) #[true, false, false, false, false, false, false, false, false, false, false, false, false, false, false, false, false, false, false, false, false, false, false, false, false, false, false, false, false, false, false, false, false, false, false, false, false, false, false, false, false, false, false, false, false] rfl rfl (any_of HT_.out (by kernel_rfl)) (fun _ _ _ h => h) (Or.inl ⟨by rfl, ?_⟩) ?_ ?_
                                            rotate_left
                                            · intro w'
                                              go_simp
                                              with_reducible rfl
                                            rotate_left
                                            · simp only [Act.put, List.setIfInBounds_toArray, List.set_cons_zero, List.set_cons_succ, i64_w, i32_w]
                                              rfl
                                            refine pure_ (i := 1) (N := some 37) (v := ?_) (a' := ?_) #[true, true, false, false, false, false, false, false, false, false, false, false, false, false, false, false, false, false, false, false, false, false, false, false, false, false, false, false, false, false, false, false, false, false, false, false, false, false, false, false, false, false, false, false, false] rfl rfl (any_of HT_.out (by kernel_rfl)) (fun _ _ _ h => h) (Or.inl ⟨by rfl, ?_⟩) ?_ ?_
                                            rotate_left
                                            · intro w'
                                              go_simp
                                              with_reducible rfl
                                            rotate_left
                                            · simp only [Act.put, List.setIfInBounds_toArray, List.set_cons_zero, List.set_cons_succ, i64_w, i32_w]
                                              rfl
                                            refine pure_ (i := 2) (N := some 38) (v := ?_) (a' := ?_) #[true, true, true, false, false, false, false, false, false, false, false, false, false, false, false, false, false, false, false, false, false, false, false, false, false, false, false, false, false, false, false, false, false, false, false, false, false, false, false, false, false, false, false, false, false] rfl rfl (any_of HT_.out (by kernel_rfl)) (fun _ _ _ h => h) (Or.inl ⟨by rfl, ?_⟩) ?_ ?_
                                            rotate_left
                                            · intro w'
                                              go_simp
                                              with_reducible rfl
                                            rotate_left
                                            · simp only [Act.put, List.setIfInBounds_toArray, List.set_cons_zero, List.set_cons_succ, i64_w, i32_w]
                                              rfl
                                            refine pure_ (i := 3) (N := some 39) (v := ?_) (a' := ?_) #[true, true, true, true, false, false, false, false, false, false, false, false, false, false, false, false, false, false, false, false, false, false, false, false, false, false, false, false, false, false, false, false, false, false, false, false, false, false, false, false, false, false, false, false, false] rfl rfl (any_of HT_.out (by kernel_rfl)) (fun _ _ _ h => h) (Or.inl ⟨by rfl, ?_⟩) ?_ ?_
                                            rotate_left
                                            · intro w'
                                              go_simp
                                              with_reducible rfl
                                            rotate_left
                                            · simp only [Act.put, List.setIfInBounds_toArray, List.set_cons_zero, List.set_cons_succ, i64_w, i32_w]
                                              rfl
                                            refine pure_ (i := 4) (N := some 40) (v := ?_) (a' := ?_) #[true, true, true, true, true, false, false, false, false, false, false, false, false, false, false, false, false, false, false, false, false, false, false, false, false, false, false, false, false, false, false, false, false, false, false, false, false, false, false, false, false, false, false, false, false] rfl rfl (any_of HT_.out (by kernel_rfl)) (fun _ _ _ h => h) (Or.inl ⟨by rfl, ?_⟩) ?_ ?_
                                            rotate_left
                                            · intro w'
                                              go_simp
                                              with_reducible rfl
                                            rotate_left
                                            · simp only [Act.put, List.setIfInBounds_toArray, List.set_cons_zero, List.set_cons_succ, i64_w, i32_w]
                                              rfl
                                            refine pure_ (i := 9) (N := some 45) (v := ?_) (a' := ?_) #[true, true, true, true, true, false, false, false, false, true, false, false, false, false, false, false, false, false, false, false, false, false, false, false, false, false, false, false, false, false, false, false, false, false, false, false, false, false, false, false, false, false, false, false, false] rfl rfl (any_of HT_.out (by kernel_rfl)) (fun _ _ _ h => h) (Or.inl ⟨by rfl, ?_⟩) ?_ ?_
                                            rotate_left
                                            · intro w'
                                              go_simp
                                              with_reducible rfl
                                            rotate_left
                                            · simp only [Act.put, List.setIfInBounds_toArray, List.set_cons_zero, List.set_cons_succ, i64_w, i32_w]
                                              rfl
                                            refine pure_ (i := 10) (N := some 46) (v := ?_) (a' := ?_) #[true, true, true, true, true, false, false, false, false, true, true, false, false, false, false, false, false, false, false, false, false, false, false, false, false, false, false, false, false, false, false, false, false, false, false, false, false, false, false, false, false, false, false, false, false] rfl rfl (any_of HT_.out (by kernel_rfl)) (fun _ _ _ h => h) (Or.inl ⟨by rfl, ?_⟩) ?_ ?_
                                            rotate_left
                                            · intro w'
                                              go_simp
                                              with_reducible rfl
                                            rotate_left
                                            · simp only [Act.put, List.setIfInBounds_toArray, List.set_cons_zero, List.set_cons_succ, i64_w, i32_w]
                                              rfl
                                            refine pure_ (i := 11) (N := some 47) (v := ?_) (a' := ?_) #[true, true, true, true, true, false, false, false, false, true, true, true, false, false, false, false, false, false, false, false, false, false, false, false, false, false, false, false, false, false, false, false, false, false, false, false, false, false, false, false, false, false, false, false, false] rfl rfl (any_of HT_.out (by kernel_rfl)) (fun _ _ _ h => h) (Or.inl ⟨by rfl, ?_⟩) ?_ ?_
                                            rotate_left
                                            · intro w'
                                              go_simp
                                              with_reducible rfl
                                            rotate_left
                                            · simp only [Act.put, List.setIfInBounds_toArray, List.set_cons_zero, List.set_cons_succ, i64_w, i32_w]
                                              rfl
                                            refine pure_ (i := 12) (N := some 48) (v := ?_) (a' := ?_) #[true, true, true, true, true, false, false, false, false, true, true, true, true, false, false, false, false, false, false, false, false, false, false, false, false, false, false, false, false, false, false, false, false, false, false, false, false, false, false, false, false, false, false, false, false] rfl rfl (any_of HT_.out (by kernel_rfl)) (fun _ _ _ h => h) (Or.inl ⟨by rfl, ?_⟩) ?_ ?_
                                            rotate_left
                                            · intro w'
                                              go_simp
                                              with_reducible rfl
                                            rotate_left
                                            · simp only [Act.put, List.setIfInBounds_toArray, List.set_cons_zero, List.set_cons_succ, i64_w, i32_w]
                                              rfl
                                            refine pure_ (i := 19) (N := some 55) (v := ?_) (a' := ?_) #[true, true, true, true, true, false, false, false, false, true, true, true, true, false, false, false, false, false, false, true, false, false, false, false, false, false, false, false, false, false, false, false, false, false, false, false, false, false, false, false, false, false, false, false, false] rfl rfl (any_of HT_.out (by kernel_rfl)) (fun _ _ _ h => h) (Or.inl ⟨by rfl, ?_⟩) ?_ ?_
                                            rotate_left
                                            · intro w'
                                              go_simp
                                              with_reducible rfl
                                            rotate_left
                                            · simp only [Act.put, List.setIfInBounds_toArray, List.set_cons_zero, List.set_cons_succ, i64_w, i32_w]
                                              rfl
                                            refine pure_ (i := 20) (N := some 56) (v := ?_) (a' := ?_) #[true, true, true, true, true, false, false, false, false, true, true, true, true, false, false, false, false, false, false, true, true, false, false, false, false, false, false, false, false, false, false, false, false, false, false, false, false, false, false, false, false, false, false, false, false] rfl rfl (any_of HT_.out (by kernel_rfl)) (fun _ _ _ h => h) (Or.inl ⟨by rfl, ?_⟩) ?_ ?_
                                            rotate_left
                                            · intro w'
                                              go_simp
                                              with_reducible rfl
                                            rotate_left
                                            · simp only [Act.put, List.setIfInBounds_toArray, List.set_cons_zero, List.set_cons_succ, i64_w, i32_w]
                                              rfl
                                            refine pure_ (i := 21) (N := some 57) (v := ?_) (a' := ?_) #[true, true, true, true, true, false, false, false, false, true, true, true, true, false, false, false, false, false, false, true, true, true, false, false, false, false, false, false, false, false, false, false, false, false, false, false, false, false, false, false, false, false, false, false, false] rfl rfl (any_of HT_.out (by kernel_rfl)) (fun _ _ _ h => h) (Or.inl ⟨by rfl, ?_⟩) ?_ ?_
                                            rotate_left
                                            · intro w'
                                              go_simp
                                              with_reducible rfl
                                            rotate_left
                                            · simp only [Act.put, List.setIfInBounds_toArray, List.set_cons_zero, List.set_cons_succ, i64_w, i32_w]
                                              rfl
                                            refine pure_ (i := 27) (N := some 63) (v := ?_) (a' := ?_) #[true, true, true, true, true, false, false, false, false, true, true, true, true, false, false, false, false, false, false, true, true, true, false, false, false, false, false, true, false, false, false, false, false, false, false, false, false, false, false, false, false, false, false, false, false] rfl rfl (any_of HT_.out (by kernel_rfl)) (fun _ _ _ h => h) (Or.inl ⟨by rfl, ?_⟩) ?_ ?_
                                            rotate_left
                                            · intro w'
                                              go_simp
                                              with_reducible rfl
                                            rotate_left
                                            · simp only [Act.put, List.setIfInBounds_toArray, List.set_cons_zero, List.set_cons_succ, i64_w, i32_w]
                                              rfl
                                            refine pure_ (i := 28) (N := some 64) (v := ?_) (a' := ?_) #[true, true, true, true, true, false, false, false, false, true, true, true, true, false, false, false, false, false, false, true, true, true, false, false, false, false, false, true, true, false, false, false, false, false, false, false, false, false, false, false, false, false, false, false, false] rfl rfl (any_of HT_.out (by kernel_rfl)) (fun _ _ _ h => h) (Or.inl ⟨by rfl, ?_⟩) ?_ ?_
                                            rotate_left
                                            · intro w'
                                              go_simp
                                              with_reducible rfl
                                            rotate_left
                                            · simp only [Act.put, List.setIfInBounds_toArray, List.set_cons_zero, List.set_cons_succ, i64_w, i32_w]
                                              rfl
                                            refine pure_ (i := 29) (N := some 65) (v := ?_) (a' := ?_) #[true, true, true, true, true, false, false, false, false, true, true, true, true, false, false, false, false, false, false, true, true, true, false, false, false, false, false, true, true, true, false, false, false, false, false, false, false, false, false, false, false, false, false, false, false] rfl rfl (any_of HT_.out (by kernel_rfl)) (fun _ _ _ h => h) (Or.inl ⟨by rfl, ?_⟩) ?_ ?_
                                            rotate_left
                                            · intro w'
                                              go_simp
                                              with_reducible rfl
                                            rotate_left
                                            · simp only [Act.put, List.setIfInBounds_toArray, List.set_cons_zero, List.set_cons_succ, i64_w, i32_w]
                                              rfl
                                            refine pure_ (i := 35) (N := some 71) (v := ?_) (a' := ?_) #[true, true, true, true, true, false, false, false, false, true, true, true, true, false, false, false, false, false, false, true, true, true, false, false, false, false, false, true, true, true, false, false, false, false, false, true, false, false, false, false, false, false, false, false, false] rfl rfl (any_of HT_.out (by kernel_rfl)) (fun _ _ _ h => h) (Or.inl ⟨by rfl, ?_⟩) ?_ ?_
                                            rotate_left
                                            · intro w'
                                              go_simp
                                              with_reducible rfl
                                            rotate_left
                                            · simp only [Act.put, List.setIfInBounds_toArray, List.set_cons_zero, List.set_cons_succ, i64_w, i32_w]
                                              rfl
                                            refine pure_ (i := 36) (N := some 72) (v := ?_) (a' := ?_) #[true, true, true, true, true, false, false, false, false, true, true, true, true, false, false, false, false, false, false, true, true, true, false, false, false, false, false, true, true, true, false, false, false, false, false, true, true, false, false, false, false, false, false, false, false] rfl rfl (any_of HT_.out (by kernel_rfl)) (fun _ _ _ h => h) (Or.inl ⟨by rfl, ?_⟩) ?_ ?_
                                            rotate_left
                                            · intro w'
                                              go_simp
                                              with_reducible rfl
                                            rotate_left
                                            · simp only [Act.put, List.setIfInBounds_toArray, List.set_cons_zero, List.set_cons_succ, i64_w, i32_w]
                                              rfl
                                            refine pure_ (i := 37) (N := some 73) (v := ?_) (a' := ?_) #[true, true, true, true, true, false, false, false, false, true, true, true, true, false, false, false, false, false, false, true, true, true, false, false, false, false, false, true, true, true, false, false, false, false, false, true, true, true, false, false, false, false, false, false, false] rfl rfl (any_of HT_.out (by kernel_rfl)) (fun _ _ _ h => h) (Or.inl ⟨by rfl, ?_⟩) ?_ ?_
                                            rotate_left
                                            · intro w'
                                              go_simp
                                              with_reducible rfl
                                            rotate_left
                                            · simp only [Act.put, List.setIfInBounds_toArray, List.set_cons_zero, List.set_cons_succ, i64_w, i32_w]
                                              rfl
                                            refine take_ (i := 5) (N := some 41) (v := ?_) (a' := ?_) #[true, true, true, true, true, true, false, false, false, true, true, true, true, false, false, false, false, false, false, true, true, true, false, false, false, false, false, true, true, true, false, false, false, false, false, true, true, true, false, false, false, false, false, false, false] rfl rfl (take_ofW HT_.out HW_.out (by kernel_rfl)) (fun _ _ _ h => h) (Or.inl ⟨by rfl, ?_⟩) hHeld ?_ ?_
                                            rotate_left
                                            · rintro w' ⟨s0, s1, s2, s3, s4, s5, s6, s7, s8, s9, s10, s11, s12, s13, s14, s15, s16, s17, s18, s19, s20, s21, s22, s23, s24⟩
                                              go_simp
                                              with_reducible rfl
                                            rotate_left
                                            · simp only [Act.put, List.setIfInBounds_toArray, List.set_cons_zero, List.set_cons_succ, i64_w, i32_w]
                                              rfl
                                            refine pure_ (i := 6) (N := some 42) (v := ?_) (a' := ?_) #[true, true, true, true, true, true, true, false, false, true, true, true, true, false, false, false, false, false, false, true, true, true, false, false, false, false, false, true, true, true, false, false, false, false, false, true, true, true, false, false, false, false, false, false, false] rfl rfl (any_of HT_.out (by kernel_rfl)) (fun _ _ _ h => h) (Or.inl ⟨by rfl, ?_⟩) ?_ ?_
                                            rotate_left
                                            · intro w'
                                              go_simp
                                              with_reducible rfl
                                            rotate_left
                                            · simp only [Act.put, List.setIfInBounds_toArray, List.set_cons_zero, List.set_cons_succ, i64_w, i32_w]
                                              rfl
                                            refine take_ (i := 13) (N := some 49) (v := ?_) (a' := ?_) #[true, true, true, true, true, true, true, false, false, true, true, true, true, true, false, false, false, false, false, true, true, true, false, false, false, false, false, true, true, true, false, false, false, false, false, true, true, true, false, false, false, false, false, false, false] rfl rfl (take_ofW HT_.out HW_.out (by kernel_rfl)) (fun _ _ _ h => h) (Or.inl ⟨by rfl, ?_⟩) hHeld ?_ ?_
                                            rotate_left
                                            · rintro w' ⟨s0, s1, s2, s3, s4, s5, s6, s7, s8, s9, s10, s11, s12, s13, s14, s15, s16, s17, s18, s19, s20, s21, s22, s23, s24⟩
                                              go_simp
                                              with_reducible rfl
                                            rotate_left
                                            · simp only [Act.put, List.setIfInBounds_toArray, List.set_cons_zero, List.set_cons_succ, i64_w, i32_w]
                                              rfl
                                            refine pure_ (i := 14) (N := some 50) (v := ?_) (a' := ?_) #[true, true, true, true, true, true, true, false, false, true, true, true, true, true, true, false, false, false, false, true, true, true, false, false, false, false, false, true, true, true, false, false, false, false, false, true, true, true, false, false, false, false, false, false, false] rfl rfl (any_of HT_.out (by kernel_rfl)) (fun _ _ _ h => h) (Or.inl ⟨by rfl, ?_⟩) ?_ ?_
                                            rotate_left
                                            · intro w'
                                              go_simp
                                              with_reducible rfl
                                            rotate_left
                                            · simp only [Act.put, List.setIfInBounds_toArray, List.set_cons_zero, List.set_cons_succ, i64_w, i32_w]
                                              rfl
                                            refine take_ (i := 22) (N := some 58) (v := ?_) (a' := ?_) #[true, true, true, true, true, true, true, false, false, true, true, true, true, true, true, false, false, false, false, true, true, true, true, false, false, false, false, true, true, true, false, false, false, false, false, true, true, true, false, false, false, false, false, false, false] rfl rfl (take_ofW HT_.out HW_.out (by kernel_rfl)) (fun _ _ _ h => h) (Or.inl ⟨by rfl, ?_⟩) hHeld ?_ ?_
                                            rotate_left
                                            · rintro w' ⟨s0, s1, s2, s3, s4, s5, s6, s7, s8, s9, s10, s11, s12, s13, s14, s15, s16, s17, s18, s19, s20, s21, s22, s23, s24⟩
                                              go_simp
                                              with_reducible rfl
                                            rotate_left
                                            · simp only [Act.put, List.setIfInBounds_toArray, List.set_cons_zero, List.set_cons_succ, i64_w, i32_w]
                                              rfl
                                            refine take_ (i := 30) (N := some 66) (v := ?_) (a' := ?_) #[true, true, true, true, true, true, true, false, false, true, true, true, true, true, true, false, false, false, false, true, true, true, true, false, false, false, false, true, true, true, true, false, false, false, false, true, true, true, false, false, false, false, false, false, false] rfl rfl (take_ofW HT_.out HW_.out (by kernel_rfl)) (fun _ _ _ h => h) (Or.inl ⟨by rfl, ?_⟩) hHeld ?_ ?_
                                            rotate_left
                                            · rintro w' ⟨s0, s1, s2, s3, s4, s5, s6, s7, s8, s9, s10, s11, s12, s13, s14, s15, s16, s17, s18, s19, s20, s21, s22, s23, s24⟩
                                              go_simp
                                              with_reducible rfl
                                            rotate_left
                                            · simp only [Act.put, List.setIfInBounds_toArray, List.set_cons_zero, List.set_cons_succ, i64_w, i32_w]
                                              rfl
                                            refine pure_ (i := 31) (N := some 67) (v := ?_) (a' := ?_) #[true, true, true, true, true, true, true, false, false, true, true, true, true, true, true, false, false, false, false, true, true, true, true, false, false, false, false, true, true, true, true, true, false, false, false, true, true, true, false, false, false, false, false, false, false] rfl rfl (any_of HT_.out (by kernel_rfl)) (fun _ _ _ h => h) (Or.inl ⟨by rfl, ?_⟩) ?_ ?_
                                            rotate_left
                                            · intro w'
                                              go_simp
                                              with_reducible rfl
                                            rotate_left
                                            · simp only [Act.put, List.setIfInBounds_toArray, List.set_cons_zero, List.set_cons_succ, i64_w, i32_w]
                                              rfl
                                            refine take_ (i := 38) (N := some 74) (v := ?_) (a' := ?_) #[true, true, true, true, true, true, true, false, false, true, true, true, true, true, true, false, false, false, false, true, true, true, true, false, false, false, false, true, true, true, true, true, false, false, false, true, true, true, true, false, false, false, false, false, false] rfl rfl (take_ofW HT_.out HW_.out (by kernel_rfl)) (fun _ _ _ h => h) (Or.inl ⟨by rfl, ?_⟩) hHeld ?_ ?_
                                            rotate_left
                                            · rintro w' ⟨s0, s1, s2, s3, s4, s5, s6, s7, s8, s9, s10, s11, s12, s13, s14, s15, s16, s17, s18, s19, s20, s21, s22, s23, s24⟩
                                              go_simp
                                              with_reducible rfl
                                            rotate_left
                                            · simp only [Act.put, List.setIfInBounds_toArray, List.set_cons_zero, List.set_cons_succ, i64_w, i32_w]
                                              rfl
                                            refine pure_ (i := 39) (N := some 75) (v := ?_) (a' := ?_) #[true, true, true, true, true, true, true, false, false, true, true, true, true, true, true, false, false, false, false, true, true, true, true, false, false, false, false, true, true, true, true, true, false, false, false, true, true, true, true, true, false, false, false, false, false] rfl rfl (any_of HT_.out (by kernel_rfl)) (fun _ _ _ h => h) (Or.inl ⟨by rfl, ?_⟩) ?_ ?_
                                            rotate_left
                                            · intro w'
                                              go_simp
                                              with_reducible rfl
                                            rotate_left
                                            · simp only [Act.put, List.setIfInBounds_toArray, List.set_cons_zero, List.set_cons_succ, i64_w, i32_w]
                                              rfl
                                            refine one_ (i := 7) (N := some 43) #[true, true, true, true, true, true, true, true, false, true, true, true, true, true, true, false, false, false, false, true, true, true, true, false, false, false, false, true, true, true, true, true, false, false, false, true, true, true, true, true, false, false, false, false, false] rfl rfl (one_of HT_.out (by kernel_rfl)) (by decide) (fun K hK => ?_)
                                            refine goes_ Tryd.func36 (by kernel_rfl) rfl #[.int .i64 (wrap64 ((rd_T85 ((rd_T37 l0 0).f2) x4_1).f0.f0))] (by rfl) rfl rfl (by (try simp only [List.map_toArray, List.map_cons, List.map_nil]); first | done | rfl | (simp only [List.length_drop, List.length_take]; rfl)) ?_
                                            with_reducible refine (spec_Decimal.calls k1 (wrap64 ((rd_T85 ((rd_T37 l0 0).f2) x4_1).f0.f0)) t151 _ A14.out).mono ?_
                                            rintro e w32 ⟨rfl, hb⟩
                                            refine ⟨_, rfl, ?_⟩
                                            have n0_ := Aside0.mk (below_step (by repeat (first | (with_reducible first | exact HB.out | apply below_alloc | apply pw_below_drewN | apply below_drew1) | exact HB.out)) hb)
                                            clear HB
                                            have HB := n0_
                                            clear n0_
                                            (try clear hb)
                                            (try clear hb2)
                                            (try clear hk)
                                            (try clear hi)
                                            refine hK.out _ _ ⟨((HB.out.cell (World.block_lt_of_cell? w _ hw150_0)).trans hw150_0), ((HB.out.cell (World.block_lt_of_cell? w _ hw150_1)).trans hw150_1), ((HB.out.cell (World.block_lt_of_cell? w _ hw150_2)).trans hw150_2), ((HB.out.cell (World.block_lt_of_cell? w _ hw150_3)).trans hw150_3), ((HB.out.cell (World.block_lt_of_cell? w _ hw150_4)).trans hw150_4), ((HB.out.cell (World.block_lt_of_cell? w _ hw152_0)).trans hw152_0), ((HB.out.cell (World.block_lt_of_cell? w _ hw152_1)).trans hw152_1), ((HB.out.cell (World.block_lt_of_cell? w _ hw152_2)).trans hw152_2), ((HB.out.cell (World.block_lt_of_cell? w _ hw152_3)).trans hw152_3), ((HB.out.cell (World.block_lt_of_cell? w _ hw152_4)).trans hw152_4), ((HB.out.cell (World.block_lt_of_cell? w _ hw157_0)).trans hw157_0), ((HB.out.cell (World.block_lt_of_cell? w _ hw157_1)).trans hw157_1), ((HB.out.cell (World.block_lt_of_cell? w _ hw157_2)).trans hw157_2), ((HB.out.cell (World.block_lt_of_cell? w _ hw157_3)).trans hw157_3), ((HB.out.cell (World.block_lt_of_cell? w _ hw157_4)).trans hw157_4), ((HB.out.cell (World.block_lt_of_cell? w _ hw159_0)).trans hw159_0), ((HB.out.cell (World.block_lt_of_cell? w _ hw159_1)).trans hw159_1), ((HB.out.cell (World.block_lt_of_cell? w _ hw159_2)).trans hw159_2), ((HB.out.cell (World.block_lt_of_cell? w _ hw159_3)).trans hw159_3), ((HB.out.cell (World.block_lt_of_cell? w _ hw159_4)).trans hw159_4), ((HB.out.cell (World.block_lt_of_cell? w _ hw161_0)).trans hw161_0), ((HB.out.cell (World.block_lt_of_cell? w _ hw161_1)).trans hw161_1), ((HB.out.cell (World.block_lt_of_cell? w _ hw161_2)).trans hw161_2), ((HB.out.cell (World.block_lt_of_cell? w _ hw161_3)).trans hw161_3), ((HB.out.cell (World.block_lt_of_cell? w _ hw161_4)).trans hw161_4)⟩ (fun hHeld => ?_)
                                            clear hK K
                                            refine norm_ (a' := ?_) ?_ ?_
                                            rotate_left
                                            · show Act.put _ (some 43) _ = _
                                              simp only [Act.put, List.setIfInBounds_toArray, List.set_cons_zero, List.set_cons_succ, i64_w, i32_w]
                                              rfl
                                            refine pure_ (i := 8) (N := some 44) (v := ?_) (a' := ?_) #[true, true, true, true, true, true, true, true, true, true, true, true, true, true, true, false, false, false, false, true, true, true, true, false, false, false, false, true, true, true, true, true, false, false, false, true, true, true, true, true, false, false, false, false, false] rfl rfl (any_of HT_.out (by kernel_rfl)) (fun _ _ _ h => h) (Or.inl ⟨by rfl, ?_⟩) ?_ ?_
                                            rotate_left
                                            · intro w'
                                              go_simp
                                              with_reducible rfl
                                            rotate_left
                                            · simp only [Act.put, List.setIfInBounds_toArray, List.set_cons_zero, List.set_cons_succ, i64_w, i32_w]
                                              rfl
                                            refine one_ (i := 15) (N := some 51) #[true, true, true, true, true, true, true, true, true, true, true, true, true, true, true, true, false, false, false, true, true, true, true, false, false, false, false, true, true, true, true, true, false, false, false, true, true, true, true, true, false, false, false, false, false] rfl rfl (one_of HT_.out (by kernel_rfl)) (by decide) (fun K hK => ?_)
                                            refine goes_ Tryd.func36 (by kernel_rfl) rfl #[.int .i64 (wrap64 ((rd_T85 ((rd_T37 l0 0).f2) x4_1).f0.f1))] (by rfl) rfl rfl (by (try simp only [List.map_toArray, List.map_cons, List.map_nil]); first | done | rfl | (simp only [List.length_drop, List.length_take]; rfl)) ?_
                                            with_reducible refine (spec_Decimal.calls k1 (wrap64 ((rd_T85 ((rd_T37 l0 0).f2) x4_1).f0.f1)) t153 _ A16.out).mono ?_
                                            rintro e w33 ⟨rfl, hb⟩
                                            refine ⟨_, rfl, ?_⟩
                                            have n0_ := Aside0.mk (below_step (by repeat (first | (with_reducible first | exact HB.out | apply below_alloc | apply pw_below_drewN | apply below_drew1) | exact HB.out)) hb)
                                            clear HB
                                            have HB := n0_
                                            clear n0_
                                            (try clear hb)
                                            (try clear hb2)
                                            (try clear hk)
                                            (try clear hi)
                                            refine hK.out _ _ ⟨((HB.out.cell (World.block_lt_of_cell? w _ hw150_0)).trans hw150_0), ((HB.out.cell (World.block_lt_of_cell? w _ hw150_1)).trans hw150_1), ((HB.out.cell (World.block_lt_of_cell? w _ hw150_2)).trans hw150_2), ((HB.out.cell (World.block_lt_of_cell? w _ hw150_3)).trans hw150_3), ((HB.out.cell (World.block_lt_of_cell? w _ hw150_4)).trans hw150_4), ((HB.out.cell (World.block_lt_of_cell? w _ hw152_0)).trans hw152_0), ((HB.out.cell (World.block_lt_of_cell? w _ hw152_1)).trans hw152_1), ((HB.out.cell (World.block_lt_of_cell? w _ hw152_2)).trans hw152_2), ((HB.out.cell (World.block_lt_of_cell? w _ hw152_3)).trans hw152_3), ((HB.out.cell (World.block_lt_of_cell? w _ hw152_4)).trans hw152_4), ((HB.out.cell (World.block_lt_of_cell? w _ hw157_0)).trans hw157_0), ((HB.out.cell (World.block_lt_of_cell? w _ hw157_1)).trans hw157_1), ((HB.out.cell (World.block_lt_of_cell? w _ hw157_2)).trans hw157_2), ((HB.out.cell (World.block_lt_of_cell? w _ hw157_3)).trans hw157_3), ((HB.out.cell (World.block_lt_of_cell? w _ hw157_4)).trans hw157_4), ((HB.out.cell (World.block_lt_of_cell? w _ hw159_0)).trans hw159_0), ((HB.out.cell (World.block_lt_of_cell? w _ hw159_1)).trans hw159_1), ((HB.out.cell (World.block_lt_of_cell? w _ hw159_2)).trans hw159_2), ((HB.out.cell (World.block_lt_of_cell? w _ hw159_3)).trans hw159_3), ((HB.out.cell (World.block_lt_of_cell? w _ hw159_4)).trans hw159_4), ((HB.out.cell (World.block_lt_of_cell? w _ hw161_0)).trans hw161_0), ((HB.out.cell (World.block_lt_of_cell? w _ hw161_1)).trans hw161_1), ((HB.out.cell (World.block_lt_of_cell? w _ hw161_2)).trans hw161_2), ((HB.out.cell (World.block_lt_of_cell? w _ hw161_3)).trans hw161_3), ((HB.out.cell (World.block_lt_of_cell? w _ hw161_4)).trans hw161_4)⟩ (fun hHeld => ?_)
                                            clear hK K
                                            refine norm_ (a' := ?_) ?_ ?_
                                            rotate_left
                                            · show Act.put _ (some 51) _ = _
                                              simp only [Act.put, List.setIfInBounds_toArray, List.set_cons_zero, List.set_cons_succ, i64_w, i32_w]
                                              rfl
                                            refine pure_ (i := 16) (N := some 52) (v := ?_) (a' := ?_) #[true, true, true, true, true, true, true, true, true, true, true, true, true, true, true, true, true, false, false, true, true, true, true, false, false, false, false, true, true, true, true, true, false, false, false, true, true, true, true, true, false, false, false, false, false] rfl rfl (any_of HT_.out (by kernel_rfl)) (fun _ _ _ h => h) (Or.inl ⟨by rfl, ?_⟩) ?_ ?_
                                            rotate_left
                                            · intro w'
                                              go_simp
                                              with_reducible rfl
                                            rotate_left
                                            · simp only [Act.put, List.setIfInBounds_toArray, List.set_cons_zero, List.set_cons_succ, i64_w, i32_w]
                                              rfl
                                            refine pure_ (i := 17) (N := some 53) (v := ?_) (a' := ?_) #[true, true, true, true, true, true, true, true, true, true, true, true, true, true, true, true, true, true, false, true, true, true, true, false, false, false, false, true, true, true, true, true, false, false, false, true, true, true, true, true, false, false, false, false, false] rfl rfl (any_of HT_.out (by kernel_rfl)) (fun _ _ _ h => h) (Or.inl ⟨by rfl, ?_⟩) ?_ ?_
                                            rotate_left
                                            · intro w'
                                              go_simp
                                              with_reducible rfl
                                            rotate_left
                                            · simp only [Act.put, List.setIfInBounds_toArray, List.set_cons_zero, List.set_cons_succ, i64_w, i32_w]
                                              rfl
                                            refine one_ (i := 18) (N := some 54) #[true, true, true, true, true, true, true, true, true, true, true, true, true, true, true, true, true, true, true, true, true, true, true, false, false, false, false, true, true, true, true, true, false, false, false, true, true, true, true, true, false, false, false, false, false] rfl rfl (one_of HT_.out (by kernel_rfl)) (by decide) (fun K hK => ?_)
                                            refine goes_ Tryd.func50 (by kernel_rfl) rfl #[] (by rfl) rfl rfl (by (try simp only [List.map_toArray, List.map_cons, List.map_nil]); first | done | rfl | (simp only [List.length_drop, List.length_take]; rfl)) ?_
                                            with_reducible refine (spec_l01Words.calls  t154 _ A19.out).mono ?_
                                            rintro e w34 ⟨v155, rfl, ho0, hb⟩
                                            refine ⟨_, rfl, ?_⟩
                                            have n0_ := Aside0.mk (Kd.R_lower ho0 (below_size (by repeat (first | (with_reducible first | exact HB.out | apply below_alloc | apply pw_below_drewN | apply below_drew1) | exact HB.out))))
                                            have n1_ := Aside0.mk (below_step (by repeat (first | (with_reducible first | exact HB.out | apply below_alloc | apply pw_below_drewN | apply below_drew1) | exact HB.out)) hb)
                                            clear HB
                                            have HO156 := n0_
                                            have HB := n1_
                                            clear n0_ n1_
                                            (try clear hb)
                                            (try clear hb2)
                                            (try clear hk)
                                            (try clear hi)
                                            (try clear ho0)
                                            obtain ⟨Ao35, co35, eo35⟩ := Kd.R_slice HO156.out
                                            (first | subst eo35 | (injection eo35 with f1_ f2_ f3_; have f4_ := f1_.symm; have f5_ := f3_.symm; clear f1_ f2_ f3_; subst f4_; subst f5_))
                                            have p158 : 0 ≤ (((rd_T85 ((rd_T37 l0 0).f2) x4_1).f1) : Int) := of_decide_eq_true (by first | (with_reducible assumption) | assumption)
                                            have q158 : ((rd_T85 ((rd_T37 l0 0).f2) x4_1).f1) < (t154.length : Int) := of_decide_eq_true (by first | (with_reducible assumption) | assumption)
                                            obtain ⟨ad158, e158, hx158_0⟩ := Kd.at_string (Kd.R_reads' HO156.out).2.2 ((rd_T85 ((rd_T37 l0 0).f2) x4_1).f1) p158 q158
                                            cases e158
                                            replace p158 := eq_true p158
                                            replace q158 := eq_true q158
                                            refine hK.out _ _ ⟨((HB.out.cell (World.block_lt_of_cell? w _ hw150_0)).trans hw150_0), ((HB.out.cell (World.block_lt_of_cell? w _ hw150_1)).trans hw150_1), ((HB.out.cell (World.block_lt_of_cell? w _ hw150_2)).trans hw150_2), ((HB.out.cell (World.block_lt_of_cell? w _ hw150_3)).trans hw150_3), ((HB.out.cell (World.block_lt_of_cell? w _ hw150_4)).trans hw150_4), ((HB.out.cell (World.block_lt_of_cell? w _ hw152_0)).trans hw152_0), ((HB.out.cell (World.block_lt_of_cell? w _ hw152_1)).trans hw152_1), ((HB.out.cell (World.block_lt_of_cell? w _ hw152_2)).trans hw152_2), ((HB.out.cell (World.block_lt_of_cell? w _ hw152_3)).trans hw152_3), ((HB.out.cell (World.block_lt_of_cell? w _ hw152_4)).trans hw152_4), ((HB.out.cell (World.block_lt_of_cell? w _ hw157_0)).trans hw157_0), ((HB.out.cell (World.block_lt_of_cell? w _ hw157_1)).trans hw157_1), ((HB.out.cell (World.block_lt_of_cell? w _ hw157_2)).trans hw157_2), ((HB.out.cell (World.block_lt_of_cell? w _ hw157_3)).trans hw157_3), ((HB.out.cell (World.block_lt_of_cell? w _ hw157_4)).trans hw157_4), ((HB.out.cell (World.block_lt_of_cell? w _ hw159_0)).trans hw159_0), ((HB.out.cell (World.block_lt_of_cell? w _ hw159_1)).trans hw159_1), ((HB.out.cell (World.block_lt_of_cell? w _ hw159_2)).trans hw159_2), ((HB.out.cell (World.block_lt_of_cell? w _ hw159_3)).trans hw159_3), ((HB.out.cell (World.block_lt_of_cell? w _ hw159_4)).trans hw159_4), ((HB.out.cell (World.block_lt_of_cell? w _ hw161_0)).trans hw161_0), ((HB.out.cell (World.block_lt_of_cell? w _ hw161_1)).trans hw161_1), ((HB.out.cell (World.block_lt_of_cell? w _ hw161_2)).trans hw161_2), ((HB.out.cell (World.block_lt_of_cell? w _ hw161_3)).trans hw161_3), ((HB.out.cell (World.block_lt_of_cell? w _ hw161_4)).trans hw161_4)⟩ (fun hHeld => ?_)
                                            clear hHeld
                                            refine more_ (S' := fun w' => w'.cell? (ad149.add ((x4_1).toNat * 5)) = some (.int .i8 ((rd_T85 ((rd_T37 l0 0).f2) x4_1).f0.f0)) ∧ w'.cell? ⟨(ad149.add ((x4_1).toNat * 5)).block, (ad149.add ((x4_1).toNat * 5)).off + 1, none⟩ = some (.int .i8 ((rd_T85 ((rd_T37 l0 0).f2) x4_1).f0.f1)) ∧ w'.cell? ⟨(ad149.add ((x4_1).toNat * 5)).block, (ad149.add ((x4_1).toNat * 5)).off + 2, none⟩ = some (.int .i8 ((rd_T85 ((rd_T37 l0 0).f2) x4_1).f1)) ∧ w'.cell? ⟨(ad149.add ((x4_1).toNat * 5)).block, (ad149.add ((x4_1).toNat * 5)).off + 3, none⟩ = some (.int .i8 ((rd_T85 ((rd_T37 l0 0).f2) x4_1).f2)) ∧ w'.cell? ⟨(ad149.add ((x4_1).toNat * 5)).block, (ad149.add ((x4_1).toNat * 5)).off + 4, none⟩ = some (.int .i8 ((rd_T85 ((rd_T37 l0 0).f2) x4_1).f3)) ∧ w'.cell? (ad149.add ((x4_1).toNat * 5)) = some (.int .i8 ((rd_T85 ((rd_T37 l0 0).f2) x4_1).f0.f0)) ∧ w'.cell? ⟨(ad149.add ((x4_1).toNat * 5)).block, (ad149.add ((x4_1).toNat * 5)).off + 1, none⟩ = some (.int .i8 ((rd_T85 ((rd_T37 l0 0).f2) x4_1).f0.f1)) ∧ w'.cell? ⟨(ad149.add ((x4_1).toNat * 5)).block, (ad149.add ((x4_1).toNat * 5)).off + 2, none⟩ = some (.int .i8 ((rd_T85 ((rd_T37 l0 0).f2) x4_1).f1)) ∧ w'.cell? ⟨(ad149.add ((x4_1).toNat * 5)).block, (ad149.add ((x4_1).toNat * 5)).off + 3, none⟩ = some (.int .i8 ((rd_T85 ((rd_T37 l0 0).f2) x4_1).f2)) ∧ w'.cell? ⟨(ad149.add ((x4_1).toNat * 5)).block, (ad149.add ((x4_1).toNat * 5)).off + 4, none⟩ = some (.int .i8 ((rd_T85 ((rd_T37 l0 0).f2) x4_1).f3)) ∧ w'.cell? (ad149.add ((x4_1).toNat * 5)) = some (.int .i8 ((rd_T85 ((rd_T37 l0 0).f2) x4_1).f0.f0)) ∧ w'.cell? ⟨(ad149.add ((x4_1).toNat * 5)).block, (ad149.add ((x4_1).toNat * 5)).off + 1, none⟩ = some (.int .i8 ((rd_T85 ((rd_T37 l0 0).f2) x4_1).f0.f1)) ∧ w'.cell? ⟨(ad149.add ((x4_1).toNat * 5)).block, (ad149.add ((x4_1).toNat * 5)).off + 2, none⟩ = some (.int .i8 ((rd_T85 ((rd_T37 l0 0).f2) x4_1).f1)) ∧ w'.cell? ⟨(ad149.add ((x4_1).toNat * 5)).block, (ad149.add ((x4_1).toNat * 5)).off + 3, none⟩ = some (.int .i8 ((rd_T85 ((rd_T37 l0 0).f2) x4_1).f2)) ∧ w'.cell? ⟨(ad149.add ((x4_1).toNat * 5)).block, (ad149.add ((x4_1).toNat * 5)).off + 4, none⟩ = some (.int .i8 ((rd_T85 ((rd_T37 l0 0).f2) x4_1).f3)) ∧ w'.cell? (ad149.add ((x4_1).toNat * 5)) = some (.int .i8 ((rd_T85 ((rd_T37 l0 0).f2) x4_1).f0.f0)) ∧ w'.cell? ⟨(ad149.add ((x4_1).toNat * 5)).block, (ad149.add ((x4_1).toNat * 5)).off + 1, none⟩ = some (.int .i8 ((rd_T85 ((rd_T37 l0 0).f2) x4_1).f0.f1)) ∧ w'.cell? ⟨(ad149.add ((x4_1).toNat * 5)).block, (ad149.add ((x4_1).toNat * 5)).off + 2, none⟩ = some (.int .i8 ((rd_T85 ((rd_T37 l0 0).f2) x4_1).f1)) ∧ w'.cell? ⟨(ad149.add ((x4_1).toNat * 5)).block, (ad149.add ((x4_1).toNat * 5)).off + 3, none⟩ = some (.int .i8 ((rd_T85 ((rd_T37 l0 0).f2) x4_1).f2)) ∧ w'.cell? ⟨(ad149.add ((x4_1).toNat * 5)).block, (ad149.add ((x4_1).toNat * 5)).off + 4, none⟩ = some (.int .i8 ((rd_T85 ((rd_T37 l0 0).f2) x4_1).f3)) ∧ w'.cell? (ad149.add ((x4_1).toNat * 5)) = some (.int .i8 ((rd_T85 ((rd_T37 l0 0).f2) x4_1).f0.f0)) ∧ w'.cell? ⟨(ad149.add ((x4_1).toNat * 5)).block, (ad149.add ((x4_1).toNat * 5)).off + 1, none⟩ = some (.int .i8 ((rd_T85 ((rd_T37 l0 0).f2) x4_1).f0.f1)) ∧ w'.cell? ⟨(ad149.add ((x4_1).toNat * 5)).block, (ad149.add ((x4_1).toNat * 5)).off + 2, none⟩ = some (.int .i8 ((rd_T85 ((rd_T37 l0 0).f2) x4_1).f1)) ∧ w'.cell? ⟨(ad149.add ((x4_1).toNat * 5)).block, (ad149.add ((x4_1).toNat * 5)).off + 3, none⟩ = some (.int .i8 ((rd_T85 ((rd_T37 l0 0).f2) x4_1).f2)) ∧ w'.cell? ⟨(ad149.add ((x4_1).toNat * 5)).block, (ad149.add ((x4_1).toNat * 5)).off + 4, none⟩ = some (.int .i8 ((rd_T85 ((rd_T37 l0 0).f2) x4_1).f3)) ∧ w'.cell? (ad158.add (((rd_T85 ((rd_T37 l0 0).f2) x4_1).f1)).toNat) = some (.string (rdOf ByteArray.empty t154 ((rd_T85 ((rd_T37 l0 0).f2) x4_1).f1)))) (fun w' ⟨s0, s1, s2, s3, s4, s5, s6, s7, s8, s9, s10, s11, s12, s13, s14, s15, s16, s17, s18, s19, s20, s21, s22, s23, s24, s25⟩ => ⟨s0, s1, s2, s3, s4, s5, s6, s7, s8, s9, s10, s11, s12, s13, s14, s15, s16, s17, s18, s19, s20, s21, s22, s23, s24⟩) ⟨((HB.out.cell (World.block_lt_of_cell? w _ hw150_0)).trans hw150_0), ((HB.out.cell (World.block_lt_of_cell? w _ hw150_1)).trans hw150_1), ((HB.out.cell (World.block_lt_of_cell? w _ hw150_2)).trans hw150_2), ((HB.out.cell (World.block_lt_of_cell? w _ hw150_3)).trans hw150_3), ((HB.out.cell (World.block_lt_of_cell? w _ hw150_4)).trans hw150_4), ((HB.out.cell (World.block_lt_of_cell? w _ hw152_0)).trans hw152_0), ((HB.out.cell (World.block_lt_of_cell? w _ hw152_1)).trans hw152_1), ((HB.out.cell (World.block_lt_of_cell? w _ hw152_2)).trans hw152_2), ((HB.out.cell (World.block_lt_of_cell? w _ hw152_3)).trans hw152_3), ((HB.out.cell (World.block_lt_of_cell? w _ hw152_4)).trans hw152_4), ((HB.out.cell (World.block_lt_of_cell? w _ hw157_0)).trans hw157_0), ((HB.out.cell (World.block_lt_of_cell? w _ hw157_1)).trans hw157_1), ((HB.out.cell (World.block_lt_of_cell? w _ hw157_2)).trans hw157_2), ((HB.out.cell (World.block_lt_of_cell? w _ hw157_3)).trans hw157_3), ((HB.out.cell (World.block_lt_of_cell? w _ hw157_4)).trans hw157_4), ((HB.out.cell (World.block_lt_of_cell? w _ hw159_0)).trans hw159_0), ((HB.out.cell (World.block_lt_of_cell? w _ hw159_1)).trans hw159_1), ((HB.out.cell (World.block_lt_of_cell? w _ hw159_2)).trans hw159_2), ((HB.out.cell (World.block_lt_of_cell? w _ hw159_3)).trans hw159_3), ((HB.out.cell (World.block_lt_of_cell? w _ hw159_4)).trans hw159_4), ((HB.out.cell (World.block_lt_of_cell? w _ hw161_0)).trans hw161_0), ((HB.out.cell (World.block_lt_of_cell? w _ hw161_1)).trans hw161_1), ((HB.out.cell (World.block_lt_of_cell? w _ hw161_2)).trans hw161_2), ((HB.out.cell (World.block_lt_of_cell? w _ hw161_3)).trans hw161_3), ((HB.out.cell (World.block_lt_of_cell? w _ hw161_4)).trans hw161_4), hx158_0⟩ (fun hHeld => ?_)
                                            clear hK K
                                            refine norm_ (a' := ?_) ?_ ?_
                                            rotate_left
                                            · show Act.put _ (some 54) _ = _
                                              simp only [Act.put, List.setIfInBounds_toArray, List.set_cons_zero, List.set_cons_succ, i64_w, i32_w]
                                              rfl
                                            refine pure_ (i := 23) (N := some 59) (v := ?_) (a' := ?_) #[true, true, true, true, true, true, true, true, true, true, true, true, true, true, true, true, true, true, true, true, true, true, true, true, false, false, false, true, true, true, true, true, false, false, false, true, true, true, true, true, false, false, false, false, false] rfl rfl (any_of HT_.out (by kernel_rfl)) (fun _ _ _ h => h) (Or.inl ⟨by rfl, ?_⟩) ?_ ?_
                                            rotate_left
                                            · intro w'
                                              go_simp
                                              with_reducible rfl
                                            rotate_left
                                            · simp only [Act.put, List.setIfInBounds_toArray, List.set_cons_zero, List.set_cons_succ, i64_w, i32_w]
                                              rfl
                                            refine take_ (i := 24) (N := some 60) (v := ?_) (a' := ?_) #[true, true, true, true, true, true, true, true, true, true, true, true, true, true, true, true, true, true, true, true, true, true, true, true, true, false, false, true, true, true, true, true, false, false, false, true, true, true, true, true, false, false, false, false, false] rfl rfl (take_ofW HT_.out HW_.out (by kernel_rfl)) (fun _ _ _ h => h) (Or.inl ⟨by rfl, ?_⟩) hHeld ?_ ?_
                                            rotate_left
                                            · rintro w' ⟨s0, s1, s2, s3, s4, s5, s6, s7, s8, s9, s10, s11, s12, s13, s14, s15, s16, s17, s18, s19, s20, s21, s22, s23, s24, s25⟩
                                              go_simp
                                              with_reducible rfl
                                            rotate_left
                                            · simp only [Act.put, List.setIfInBounds_toArray, List.set_cons_zero, List.set_cons_succ, i64_w, i32_w]
                                              rfl
                                            refine pure_ (i := 25) (N := some 61) (v := ?_) (a' := ?_) #[true, true, true, true, true, true, true, true, true, true, true, true, true, true, true, true, true, true, true, true, true, true, true, true, true, true, false, true, true, true, true, true, false, false, false, true, true, true, true, true, false, false, false, false, false] rfl rfl (any_of HT_.out (by kernel_rfl)) (fun _ _ _ h => h) (Or.inl ⟨by rfl, ?_⟩) ?_ ?_
                                            rotate_left
                                            · intro w'
                                              go_simp
                                              with_reducible rfl
                                            rotate_left
                                            · simp only [Act.put, List.setIfInBounds_toArray, List.set_cons_zero, List.set_cons_succ, i64_w, i32_w]
                                              rfl
                                            refine pure_ (i := 26) (N := some 62) (v := ?_) (a' := ?_) #[true, true, true, true, true, true, true, true, true, true, true, true, true, true, true, true, true, true, true, true, true, true, true, true, true, true, true, true, true, true, true, true, false, false, false, true, true, true, true, true, false, false, false, false, false] rfl rfl (any_of HT_.out (by kernel_rfl)) (fun _ _ _ h => h) (Or.inl ⟨by rfl, ?_⟩) ?_ ?_
                                            rotate_left
                                            · intro w'
                                              go_simp
                                              with_reducible rfl
                                            rotate_left
                                            · simp only [Act.put, List.setIfInBounds_toArray, List.set_cons_zero, List.set_cons_succ, i64_w, i32_w]
                                              rfl
                                            refine one_ (i := 32) (N := some 68) #[true, true, true, true, true, true, true, true, true, true, true, true, true, true, true, true, true, true, true, true, true, true, true, true, true, true, true, true, true, true, true, true, true, false, false, true, true, true, true, true, false, false, false, false, false] rfl rfl (one_of HT_.out (by kernel_rfl)) (by decide) (fun K hK => ?_)
                                            refine goes_ Tryd.func36 (by kernel_rfl) rfl #[.int .i64 (wrap64 ((rd_T85 ((rd_T37 l0 0).f2) x4_1).f2))] (by rfl) rfl rfl (by (try simp only [List.map_toArray, List.map_cons, List.map_nil]); first | done | rfl | (simp only [List.length_drop, List.length_take]; rfl)) ?_
                                            with_reducible refine (spec_Decimal.calls k1 (wrap64 ((rd_T85 ((rd_T37 l0 0).f2) x4_1).f2)) t160 _ A24.out).mono ?_
                                            rintro e w36 ⟨rfl, hb⟩
                                            have HS25_ := (hb.cell (World.block_lt_of_cell? _ _ (hHeld.2.2.2.2.2.2.2.2.2.2.2.2.2.2.2.2.2.2.2.2.2.2.2.2.2))).trans (hHeld.2.2.2.2.2.2.2.2.2.2.2.2.2.2.2.2.2.2.2.2.2.2.2.2.2)
                                            refine ⟨_, rfl, ?_⟩
                                            have n0_ := Aside0.mk (Kd.R_below (by (with_reducible repeat (first | apply Kd.R_alloc | apply Kd.R_drewN | apply Kd.R_drew)); exact HO156.out) hb)
                                            have n1_ := Aside0.mk (below_step (by repeat (first | (with_reducible first | exact HB.out | apply below_alloc | apply pw_below_drewN | apply below_drew1) | exact HB.out)) hb)
                                            clear HO156
                                            clear HB
                                            have HO156 := n0_
                                            have HB := n1_
                                            clear n0_ n1_
                                            (try clear hb)
                                            (try clear hb2)
                                            (try clear hk)
                                            (try clear hi)
                                            refine hK.out _ _ ⟨((HB.out.cell (World.block_lt_of_cell? w _ hw150_0)).trans hw150_0), ((HB.out.cell (World.block_lt_of_cell? w _ hw150_1)).trans hw150_1), ((HB.out.cell (World.block_lt_of_cell? w _ hw150_2)).trans hw150_2), ((HB.out.cell (World.block_lt_of_cell? w _ hw150_3)).trans hw150_3), ((HB.out.cell (World.block_lt_of_cell? w _ hw150_4)).trans hw150_4), ((HB.out.cell (World.block_lt_of_cell? w _ hw152_0)).trans hw152_0), ((HB.out.cell (World.block_lt_of_cell? w _ hw152_1)).trans hw152_1), ((HB.out.cell (World.block_lt_of_cell? w _ hw152_2)).trans hw152_2), ((HB.out.cell (World.block_lt_of_cell? w _ hw152_3)).trans hw152_3), ((HB.out.cell (World.block_lt_of_cell? w _ hw152_4)).trans hw152_4), ((HB.out.cell (World.block_lt_of_cell? w _ hw157_0)).trans hw157_0), ((HB.out.cell (World.block_lt_of_cell? w _ hw157_1)).trans hw157_1), ((HB.out.cell (World.block_lt_of_cell? w _ hw157_2)).trans hw157_2), ((HB.out.cell (World.block_lt_of_cell? w _ hw157_3)).trans hw157_3), ((HB.out.cell (World.block_lt_of_cell? w _ hw157_4)).trans hw157_4), ((HB.out.cell (World.block_lt_of_cell? w _ hw159_0)).trans hw159_0), ((HB.out.cell (World.block_lt_of_cell? w _ hw159_1)).trans hw159_1), ((HB.out.cell (World.block_lt_of_cell? w _ hw159_2)).trans hw159_2), ((HB.out.cell (World.block_lt_of_cell? w _ hw159_3)).trans hw159_3), ((HB.out.cell (World.block_lt_of_cell? w _ hw159_4)).trans hw159_4), ((HB.out.cell (World.block_lt_of_cell? w _ hw161_0)).trans hw161_0), ((HB.out.cell (World.block_lt_of_cell? w _ hw161_1)).trans hw161_1), ((HB.out.cell (World.block_lt_of_cell? w _ hw161_2)).trans hw161_2), ((HB.out.cell (World.block_lt_of_cell? w _ hw161_3)).trans hw161_3), ((HB.out.cell (World.block_lt_of_cell? w _ hw161_4)).trans hw161_4), HS25_⟩ (fun hHeld => ?_)
                                            clear hK K
                                            refine norm_ (a' := ?_) ?_ ?_
                                            rotate_left
                                            · show Act.put _ (some 68) _ = _
                                              simp only [Act.put, List.setIfInBounds_toArray, List.set_cons_zero, List.set_cons_succ, i64_w, i32_w]
                                              rfl
                                            refine pure_ (i := 33) (N := some 69) (v := ?_) (a' := ?_) #[true, true, true, true, true, true, true, true, true, true, true, true, true, true, true, true, true, true, true, true, true, true, true, true, true, true, true, true, true, true, true, true, true, true, false, true, true, true, true, true, false, false, false, false, false] rfl rfl (any_of HT_.out (by kernel_rfl)) (fun _ _ _ h => h) (Or.inl ⟨by rfl, ?_⟩) ?_ ?_
                                            rotate_left
                                            · intro w'
                                              go_simp
                                              with_reducible rfl
                                            rotate_left
                                            · simp only [Act.put, List.setIfInBounds_toArray, List.set_cons_zero, List.set_cons_succ, i64_w, i32_w]
                                              rfl
                                            refine pure_ (i := 34) (N := some 70) (v := ?_) (a' := ?_) #[true, true, true, true, true, true, true, true, true, true, true, true, true, true, true, true, true, true, true, true, true, true, true, true, true, true, true, true, true, true, true, true, true, true, true, true, true, true, true, true, false, false, false, false, false] rfl rfl (any_of HT_.out (by kernel_rfl)) (fun _ _ _ h => h) (Or.inl ⟨by rfl, ?_⟩) ?_ ?_
                                            rotate_left
                                            · intro w'
                                              go_simp
                                              with_reducible rfl
                                            rotate_left
                                            · simp only [Act.put, List.setIfInBounds_toArray, List.set_cons_zero, List.set_cons_succ, i64_w, i32_w]
                                              rfl
                                            refine one_ (i := 40) (N := some 76) #[true, true, true, true, true, true, true, true, true, true, true, true, true, true, true, true, true, true, true, true, true, true, true, true, true, true, true, true, true, true, true, true, true, true, true, true, true, true, true, true, true, false, false, false, false] rfl rfl (one_of HT_.out (by kernel_rfl)) (by decide) (fun K hK => ?_)
                                            refine goes_ Tryd.func36 (by kernel_rfl) rfl #[.int .i64 (wrap64 ((rd_T85 ((rd_T37 l0 0).f2) x4_1).f3))] (by rfl) rfl rfl (by (try simp only [List.map_toArray, List.map_cons, List.map_nil]); first | done | rfl | (simp only [List.length_drop, List.length_take]; rfl)) ?_
                                            with_reducible refine (spec_Decimal.calls k1 (wrap64 ((rd_T85 ((rd_T37 l0 0).f2) x4_1).f3)) t162 _ A27.out).mono ?_
                                            rintro e w37 ⟨rfl, hb⟩
                                            have HS25_ := (hb.cell (World.block_lt_of_cell? _ _ (hHeld.2.2.2.2.2.2.2.2.2.2.2.2.2.2.2.2.2.2.2.2.2.2.2.2.2))).trans (hHeld.2.2.2.2.2.2.2.2.2.2.2.2.2.2.2.2.2.2.2.2.2.2.2.2.2)
                                            refine ⟨_, rfl, ?_⟩
                                            have n0_ := Aside0.mk (Kd.R_below (by (with_reducible repeat (first | apply Kd.R_alloc | apply Kd.R_drewN | apply Kd.R_drew)); exact HO156.out) hb)
                                            have n1_ := Aside0.mk (below_step (by repeat (first | (with_reducible first | exact HB.out | apply below_alloc | apply pw_below_drewN | apply below_drew1) | exact HB.out)) hb)
                                            clear HO156
                                            clear HB
                                            have HO156 := n0_
                                            have HB := n1_
                                            clear n0_ n1_
                                            (try clear hb)
                                            (try clear hb2)
                                            (try clear hk)
                                            (try clear hi)
                                            refine hK.out _ _ ⟨((HB.out.cell (World.block_lt_of_cell? w _ hw150_0)).trans hw150_0), ((HB.out.cell (World.block_lt_of_cell? w _ hw150_1)).trans hw150_1), ((HB.out.cell (World.block_lt_of_cell? w _ hw150_2)).trans hw150_2), ((HB.out.cell (World.block_lt_of_cell? w _ hw150_3)).trans hw150_3), ((HB.out.cell (World.block_lt_of_cell? w _ hw150_4)).trans hw150_4), ((HB.out.cell (World.block_lt_of_cell? w _ hw152_0)).trans hw152_0), ((HB.out.cell (World.block_lt_of_cell? w _ hw152_1)).trans hw152_1), ((HB.out.cell (World.block_lt_of_cell? w _ hw152_2)).trans hw152_2), ((HB.out.cell (World.block_lt_of_cell? w _ hw152_3)).trans hw152_3), ((HB.out.cell (World.block_lt_of_cell? w _ hw152_4)).trans hw152_4), ((HB.out.cell (World.block_lt_of_cell? w _ hw157_0)).trans hw157_0), ((HB.out.cell (World.block_lt_of_cell? w _ hw157_1)).trans hw157_1), ((HB.out.cell (World.block_lt_of_cell? w _ hw157_2)).trans hw157_2), ((HB.out.cell (World.block_lt_of_cell? w _ hw157_3)).trans hw157_3), ((HB.out.cell (World.block_lt_of_cell? w _ hw157_4)).trans hw157_4), ((HB.out.cell (World.block_lt_of_cell? w _ hw159_0)).trans hw159_0), ((HB.out.cell (World.block_lt_of_cell? w _ hw159_1)).trans hw159_1), ((HB.out.cell (World.block_lt_of_cell? w _ hw159_2)).trans hw159_2), ((HB.out.cell (World.block_lt_of_cell? w _ hw159_3)).trans hw159_3), ((HB.out.cell (World.block_lt_of_cell? w _ hw159_4)).trans hw159_4), ((HB.out.cell (World.block_lt_of_cell? w _ hw161_0)).trans hw161_0), ((HB.out.cell (World.block_lt_of_cell? w _ hw161_1)).trans hw161_1), ((HB.out.cell (World.block_lt_of_cell? w _ hw161_2)).trans hw161_2), ((HB.out.cell (World.block_lt_of_cell? w _ hw161_3)).trans hw161_3), ((HB.out.cell (World.block_lt_of_cell? w _ hw161_4)).trans hw161_4), HS25_⟩ (fun hHeld => ?_)
                                            clear hK K
                                            refine norm_ (a' := ?_) ?_ ?_
                                            rotate_left
                                            · show Act.put _ (some 76) _ = _
                                              simp only [Act.put, List.setIfInBounds_toArray, List.set_cons_zero, List.set_cons_succ, i64_w, i32_w]
                                              rfl
                                            refine pure_ (i := 41) (N := some 77) (v := ?_) (a' := ?_) #[true, true, true, true, true, true, true, true, true, true, true, true, true, true, true, true, true, true, true, true, true, true, true, true, true, true, true, true, true, true, true, true, true, true, true, true, true, true, true, true, true, true, false, false, false] rfl rfl (any_of HT_.out (by kernel_rfl)) (fun _ _ _ h => h) (Or.inl ⟨by rfl, ?_⟩) ?_ ?_
                                            rotate_left
                                            · intro w'
                                              go_simp
                                              with_reducible rfl
                                            rotate_left
                                            · simp only [Act.put, List.setIfInBounds_toArray, List.set_cons_zero, List.set_cons_succ, i64_w, i32_w]
                                              rfl
                                            refine pure_ (i := 42) (N := some 78) (v := ?_) (a' := ?_) #[true, true, true, true, true, true, true, true, true, true, true, true, true, true, true, true, true, true, true, true, true, true, true, true, true, true, true, true, true, true, true, true, true, true, true, true, true, true, true, true, true, true, true, false, false] rfl rfl (any_of HT_.out (by kernel_rfl)) (fun _ _ _ h => h) (Or.inl ⟨by rfl, ?_⟩) ?_ ?_
                                            rotate_left
                                            · intro w'
                                              go_simp
                                              with_reducible rfl
                                            rotate_left
                                            · simp only [Act.put, List.setIfInBounds_toArray, List.set_cons_zero, List.set_cons_succ, i64_w, i32_w]
                                              rfl
                                            refine pure_ (i := 43) (N := some 79) (v := ?_) (a' := ?_) #[true, true, true, true, true, true, true, true, true, true, true, true, true, true, true, true, true, true, true, true, true, true, true, true, true, true, true, true, true, true, true, true, true, true, true, true, true, true, true, true, true, true, true, true, false] rfl rfl (any_of HT_.out (by kernel_rfl)) (fun _ _ _ h => h) (Or.inl ⟨by rfl, ?_⟩) ?_ ?_
                                            rotate_left
                                            · intro w'
                                              go_simp
                                              with_reducible rfl
                                            rotate_left
                                            · simp only [Act.put, List.setIfInBounds_toArray, List.set_cons_zero, List.set_cons_succ, i64_w, i32_w]
                                              rfl
                                            refine pure_ (i := 44) (N := some 3) (v := ?_) (a' := ?_) #[true, true, true, true, true, true, true, true, true, true, true, true, true, true, true, true, true, true, true, true, true, true, true, true, true, true, true, true, true, true, true, true, true, true, true, true, true, true, true, true, true, true, true, true, true] rfl rfl (any_of HT_.out (by kernel_rfl)) (fun _ _ _ h => h) (Or.inl ⟨by rfl, ?_⟩) ?_ ?_
                                            rotate_left
                                            · intro w'
                                              go_simp
                                              with_reducible rfl
                                            rotate_left
                                            · simp only [Act.put, List.setIfInBounds_toArray, List.set_cons_zero, List.set_cons_succ, i64_w, i32_w]
                                              rfl
                                            refine done_ (done_of HT_.out (by kernel_rfl)) ?_
                                            try go_wp2
                                            go_roundg k1
                                            case measure => have := HK1.out; omega
                                            case rel => exact ⟨(x3_1 ++ (((((((((t151 ++ (⟨#[32]⟩ : ByteArray)) ++ t153) ++ (⟨#[32]⟩ : ByteArray)) ++ (rdOf ByteArray.empty t154 ((rd_T85 ((rd_T37 l0 0).f2) x4_1).f1))) ++ (⟨#[32]⟩ : ByteArray)) ++ t160) ++ (⟨#[32]⟩ : ByteArray)) ++ t162) ++ (⟨#[10]⟩ : ByteArray))), (wrap64 (x4_1 + 1)), (by first | rfl | (simp; done) | (simp [*]; done) | (exact congrArg (Value.int .i64) (wrap_eq (by omega)))), (by first | rfl | (simp; done) | (simp [*]; done) | (exact congrArg (Value.int .i64) (wrap_eq (by omega)))), H', ⟨by have := HK1.out; omega⟩, ⟨by repeat (first | (with_reducible first | exact HB.out | apply below_alloc | apply pw_below_drewN | apply below_drew1) | exact HB.out)⟩⟩
                                          · rw [if_neg c30] at H
                                            exact absurd H (by simp)
                                        · rw [if_neg c29] at H
                                          exact absurd H (by simp)
                                      · rw [if_neg c28] at H
                                        exact absurd H (by simp)
                                    · rw [if_neg c26] at H
                                      exact absurd H (by simp)
                                  · rw [if_neg c25] at H
                                    exact absurd H (by simp)
                                · rw [if_neg c23] at H
                                  exact absurd H (by simp)
                              · rw [if_neg c22] at H
                                exact absurd H (by simp)
                            · rw [if_neg c21] at H
                              exact absurd H (by simp)
                          · rw [if_neg c20] at H
                            exact absurd H (by simp)
                        · rw [if_neg c18] at H
                          exact absurd H (by simp)
                      · rw [if_neg c17] at H
                        exact absurd H (by simp)
                    · rw [if_neg c15] at H
                      exact absurd H (by simp)
                  · rw [if_neg c13] at H
                    exact absurd H (by simp)
                · rw [if_neg c12] at H
                  have c12b0 : decide (x4_1 < (((rd_T37 l0 0).f2).length : Int)) = false := decide_eq_false c12
                  clear c12
                  obtain rfl := Option.some.inj H
                  have p147 : 0 ≤ (0 : Int) := (by omega)
                  have q147 : 0 < (l0.length : Int) := of_decide_eq_true (by first | (with_reducible assumption) | assumption)
                  obtain ⟨ad147, A147_2, c147_2, e147, hx147_0, hx147_1, hx147_2, hl147_2, hi147_2⟩ := at_T37 HR0.out 0 p147 q147
                  obtain rfl : adp0 = ad147 := (by injection e147)
                  have qi147 : (0 < l0.length) = True := eq_true (by omega)
                  (try rw [show ((0 : Int)).toNat = 0 from rfl] at hx147_0)
                  (try rw [show 0 * 3 = 0 from rfl] at hx147_0)
                  (try rw [Addr.add_zero'] at hx147_0)
                  (try rw [show ((0 : Int)).toNat = 0 from rfl] at hx147_1)
                  (try rw [show 0 * 3 = 0 from rfl] at hx147_1)
                  (try rw [Addr.add_zero'] at hx147_1)
                  (try rw [show ((0 : Int)).toNat = 0 from rfl] at hx147_2)
                  (try rw [show 0 * 3 = 0 from rfl] at hx147_2)
                  (try rw [Addr.add_zero'] at hx147_2)
                  replace hx147_0 := (HB.out.cell (World.block_lt_of_cell? w _ hx147_0)).trans hx147_0
                  replace hx147_1 := (HB.out.cell (World.block_lt_of_cell? w _ hx147_1)).trans hx147_1
                  replace hx147_2 := (HB.out.cell (World.block_lt_of_cell? w _ hx147_2)).trans hx147_2
                  have HR147_2 := Aside0.mk hi147_2
                  have HC147_2 := Aside0.mk hl147_2
                  clear hi147_2 hl147_2
                  replace p147 := eq_true p147
                  replace q147 := eq_true q147
                  go_wp2
                  go_ret
                  exact ⟨by first | rfl | (simp [errW_none, errW_some] <;> rfl) | (simp [*, errW_none, errW_some] <;> rfl), by repeat (first | (with_reducible first | exact HB.out | apply below_alloc | apply pw_below_drewN | apply below_drew1) | exact HB.out)⟩
              · rw [if_neg c11] at H
                exact absurd H (by simp)
        · rw [if_neg c7] at H
          exact absurd H (by simp)
      · rw [if_neg c6] at H
        exact absurd H (by simp)
    · rw [if_neg c4] at H
      exact absurd H (by simp)
  · rw [if_neg c2] at H
    exact absurd H (by simp)

end Go.Proofs.YtnbjijkpenlpbaaDoor.PFnExactBoardText
