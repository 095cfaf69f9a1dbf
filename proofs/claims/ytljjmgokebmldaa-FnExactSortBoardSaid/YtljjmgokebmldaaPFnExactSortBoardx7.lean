-- WRITTEN by xprint.py, a program of this session's. Not trusted: Lean checks it.
-- packed by pack.py
import Derived.Test.YtljjmgokebmldaaPFnExactSortBoardx0
import Derived.Test.YtljjmgokebmldaaPFnExactSortBoardx6
import Derived.Test.YtljjmgokebmldaaTFnExactSortBoarda
namespace Go.Proofs.Ytljjmgokebmldaa.PFnExactSortBoard
open Go.RowKit Go.Proofs.YtljjmgokebmldaaW.PrintWords Go.Proofs.YtljjmgokebmldaaW.PrintLast Go.Proofs.YtljjmgokebmldaaW.PrintMore Go.Proofs.YtljjmgokebmldaaX
attribute [local go_sem] max2_int min2_int max_two min_two max_three min_three max_four min_four   -- for this text's walks alone
set_option maxHeartbeats 8000000
set_option maxRecDepth 100000
set_option linter.unusedVariables false
set_option linter.unusedSimpArgs false

def laws_eqPieceS.l0 : Nat → List (S43) → List (S43) → Int → Option (Bool)
  | 0, _, _, _ => none
  | k + 1, x0, x1, x5 => if x5 < (x0.length : Int) then (if 0 ≤ x5 then (if x5 < (x1.length : Int) then ((laws_eqPiece.f k ((rd_T43 x0 x5).f0.f0) ((rd_T43 x0 x5).f0.f1) ((rd_T43 x0 x5).f1) ((rd_T43 x0 x5).f2) ((rd_T43 x0 x5).f3) ((rd_T43 x1 x5).f0.f0) ((rd_T43 x1 x5).f0.f1) ((rd_T43 x1 x5).f1) ((rd_T43 x1 x5).f2) ((rd_T43 x1 x5).f3)).bind fun t199 => (if t199 = true then (laws_eqPieceS.l0 k x0 x1 (wrap64 (x5 + 1))) else (some false))) else (none)) else (none)) else (some true)
def laws_eqPieceS.f (k : Nat) (l0 : List (S43)) (l1 : List (S43)) : Option (Bool) := if (l0.length : Int) = (l1.length : Int) then (laws_eqPieceS.l0 k l0 l1 0) else (some false)
theorem laws_eqPieceS.mono_l : ∀ k, (∀ y0 y1 y2, LeO (laws_eqPieceS.l0 k y0 y1 y2) (laws_eqPieceS.l0 (k + 1) y0 y1 y2))
  | 0 => fun _ _ _ r h => by simp [laws_eqPieceS.l0] at h
  | k + 1 => by
    have ih0 := laws_eqPieceS.mono_l k
    · intro y0 y1 y2
      unfold laws_eqPieceS.l0
      repeat' first | (with_reducible first | apply ih0 | apply laws_eqPiece.mono | exact LeO.refl _ | exact LeO.none _ | refine LeO.ite ?_ ?_ | refine LeO.bind ?_ (fun _ => ?_)) | apply ih0 | apply laws_eqPiece.mono | exact LeO.none _ | refine LeO.ite ?_ ?_ | refine LeO.bind ?_ (fun _ => ?_)
theorem laws_eqPieceS.mono : ∀ a0 a1 k, LeO (laws_eqPieceS.f k a0 a1) (laws_eqPieceS.f (k + 1) a0 a1) := by
 intro a0 a1 k
 have ih0 := laws_eqPieceS.mono_l k
 unfold laws_eqPieceS.f
 repeat' first | (with_reducible first | apply ih0 | apply laws_eqPiece.mono | exact LeO.refl _ | exact LeO.none _ | refine LeO.ite ?_ ?_ | refine LeO.bind ?_ (fun _ => ?_)) | apply ih0 | apply laws_eqPiece.mono | exact LeO.none _ | refine LeO.ite ?_ ?_ | refine LeO.bind ?_ (fun _ => ?_)
def laws_eqPieceS.T6 : Bool × List (List Nat × List Nat) := (true, [([], []), ([], []), ([0, 1], [0, 1]), ([2], [2]), ([], []), ([], []), ([4, 5], [4, 5]), ([6], [6]), ([3, 7], [3, 7]), ([8], [8])])
def laws_eqPieceS.B6 : List Nat := [0, 0, 3, 7, 0, 0, 48, 112, 255, 511]
theorem laws_eqPieceS.tab6 : rtab .any (opsOf Try.f21 6) = laws_eqPieceS.T6 := by kernel_rfl
theorem laws_eqPieceS.bits6 : waitsOk laws_eqPieceS.T6.2 laws_eqPieceS.B6 = true := by kernel_rfl
theorem laws_eqPieceS.calls (k : Nat) (A0 : Option Addr) (c0 : Nat) (l0 : List (S43)) (A1 : Option Addr) (c1 : Nat) (l1 : List (S43)) (r : Bool) (w : World) (hr0 : Kd.C k43 w A0 l0.length l0) (hc0 : l0.length ≤ c0) (hr1 : Kd.C k43 w A1 l1.length l1) (hc1 : l1.length ≤ c1) (h : laws_eqPieceS.f k l0 l1 = some r) :
    Calls Try.prog 21 #[.slice A0 l0.length c0, .slice A1 l1.length c1] w fun e w' => e = .returned (.bool r) ∧ Below w.heap.size w w' := by
 have hu43 := Try.underlying43
 have HR0 := Aside0.mk hr0
 have HC0 := Aside0.mk hc0
 clear hr0 hc0
 have HR1 := Aside0.mk hr1
 have HC1 := Aside0.mk hc1
 clear hr1 hc1
 have HB := Aside0.mk (Below.refl w.heap.size w)
 have H : (if (l0.length : Int) = (l1.length : Int) then (laws_eqPieceS.l0 k l0 l1 0) else (some false)) = some r := h
 clear h
 by_cases c3 : (l0.length : Int) = (l1.length : Int)
 rotate_left
 ·rw [if_neg c3] at H
  have c3b0 : ((l0.length : Int) == (l1.length : Int)) = false := beq_eq_false_iff_ne.mpr c3
  have c3b1 : ((l0.length : Int) != (l1.length : Int)) = true := bne_iff_ne.mpr c3
  have c3b2 : (l0.length == l1.length) = false := by first | simpa using c3 | (simp at c3 ⊢; omega)
  obtain rfl := Option.some.inj H
  go_enter Try.func21, Try.ntmps21
  go_wp2
  go_ret
  exact ⟨zv, zbo⟩
 rw [if_pos c3] at H
 have c3b0 : ((l0.length : Int) == (l1.length : Int)) = true := beq_iff_eq.mpr c3
 have c3b1 : ((l0.length : Int) != (l1.length : Int)) = false := bne_eq_false_iff_eq.mpr c3
 have c3b2 : (l0.length == l1.length) = true := by first | simpa using c3 | (simp at c3 ⊢; omega)
 clear c3
 have H' := Aside0.mk H
 clear H
 go_enter Try.func21, Try.ntmps21
 go_wp2
 go_loopg [5] k (fun kq v5 w' => ∃ (x5_1 : Int), v5 = .int .i64 x5_1 ∧ Aside0 (laws_eqPieceS.l0 kq l0 l1 x5_1 = some r) ∧ Aside0 (kq ≤ k) ∧ Aside0 (Below w.heap.size w w'))
 case atStart => exact ⟨(0), zi, H', ⟨Nat.le_refl _⟩, zl HB⟩
 clear H'
 try clear c1
 try clear c2
 try clear p2
 try clear c3
 try clear c3b0
 try clear c3b1
 try clear c3b2
 obtain ⟨x5_1, rfl, HA, HK1, HB⟩ := hrel
 cases gk with
 | zero => exact absurd HA.out (by simp [laws_eqPieceS.l0])
 | succ k1 => ?_
 have H := HA.out
 clear HA
 simp only [laws_eqPieceS.l0] at H
 by_cases c4 : x5_1 < (l0.length : Int)
 rotate_left
 ·rw [if_neg c4] at H
  have c4b0 : decide (x5_1 < (l0.length : Int)) = false := decide_eq_false c4
  clear c4
  obtain rfl := Option.some.inj H
  go_wp2
  go_ret
  exact ⟨zv, zbo⟩
 rw [if_pos c4] at H
 have c4b0 : decide (x5_1 < (l0.length : Int)) = true := decide_eq_true c4
 clear c4
 by_cases c5 : 0 ≤ x5_1
 rotate_left
 ·rw [if_neg c5] at H
  exact absurd H (by simp)
 rw [if_pos c5] at H
 have c5b0 : decide (0 ≤ x5_1) = true := decide_eq_true c5
 clear c5
 by_cases c6 : x5_1 < (l1.length : Int)
 rotate_left
 ·rw [if_neg c6] at H
  exact absurd H (by simp)
 rw [if_pos c6] at H
 have c6b0 : decide (x5_1 < (l1.length : Int)) = true := decide_eq_true c6
 clear c6
 replace H := zob H
 obtain ⟨t199, A70, H⟩ := H
 replace H : (if t199 = true then (laws_eqPieceS.l0 k1 l0 l1 (wrap64 (x5_1 + 1))) else (some false)) = some r := H
 have A7 := Aside0.mk A70
 clear A70
 by_cases c8 : t199 = true
 ·subst c8
  have H1 : (laws_eqPieceS.l0 k1 l0 l1 (wrap64 (x5_1 + 1))) = some r := by rw [if_pos rfl] at H; exact H
  clear H
  have H := H1
  clear H1
  have H' := Aside0.mk H
  clear H
  try go_wp2
  have n0_ := Aside0.mk (below_drew1 HB.out)
  clear HB
  have HB := n0_
  clear n0_
  have p197 : 0 ≤ (x5_1 : Int) := of_decide_eq_true zA
  have q197 : x5_1 < (l0.length : Int) := of_decide_eq_true zA
  obtain ⟨ad197, e197, hx197_0, hx197_1, hx197_2, hx197_3, hx197_4⟩ := at_T43 HR0.out x5_1 p197 q197
  have hw197_4 := hx197_4
  have hw197_3 := hx197_3
  have hw197_2 := hx197_2
  have hw197_1 := hx197_1
  have hw197_0 := hx197_0
  cases e197
  replace hx197_0 := zc HB hx197_0
  replace hx197_1 := zc HB hx197_1
  replace hx197_2 := zc HB hx197_2
  replace hx197_3 := zc HB hx197_3
  replace hx197_4 := zc HB hx197_4
  replace p197 := eq_true p197
  replace q197 := eq_true q197
  have p198 : 0 ≤ (x5_1 : Int) := of_decide_eq_true zA
  have q198 : x5_1 < (l1.length : Int) := of_decide_eq_true zA
  obtain ⟨ad198, e198, hx198_0, hx198_1, hx198_2, hx198_3, hx198_4⟩ := at_T43 HR1.out x5_1 p198 q198
  have hw198_4 := hx198_4
  have hw198_3 := hx198_3
  have hw198_2 := hx198_2
  have hw198_1 := hx198_1
  have hw198_0 := hx198_0
  cases e198
  replace hx198_0 := zc HB hx198_0
  replace hx198_1 := zc HB hx198_1
  replace hx198_2 := zc HB hx198_2
  replace hx198_3 := zc HB hx198_3
  replace hx198_4 := zc HB hx198_4
  replace p198 := eq_true p198
  replace q198 := eq_true q198
  refine start_ (n := 10) (S := fun w' => w'.cell? (ad197.add ((x5_1).toNat * 5)) = some (.int .i8 ((rd_T43 l0 x5_1).f0.f0)) ∧ w'.cell? ⟨(ad197.add ((x5_1).toNat * 5)).block, (ad197.add ((x5_1).toNat * 5)).off + 1, none⟩ = some (.int .i8 ((rd_T43 l0 x5_1).f0.f1)) ∧ w'.cell? ⟨(ad197.add ((x5_1).toNat * 5)).block, (ad197.add ((x5_1).toNat * 5)).off + 2, none⟩ = some (.int .i8 ((rd_T43 l0 x5_1).f1)) ∧ w'.cell? ⟨(ad197.add ((x5_1).toNat * 5)).block, (ad197.add ((x5_1).toNat * 5)).off + 3, none⟩ = some (.int .i8 ((rd_T43 l0 x5_1).f2)) ∧ w'.cell? ⟨(ad197.add ((x5_1).toNat * 5)).block, (ad197.add ((x5_1).toNat * 5)).off + 4, none⟩ = some (.int .i8 ((rd_T43 l0 x5_1).f3)) ∧ w'.cell? (ad198.add ((x5_1).toNat * 5)) = some (.int .i8 ((rd_T43 l1 x5_1).f0.f0)) ∧ w'.cell? ⟨(ad198.add ((x5_1).toNat * 5)).block, (ad198.add ((x5_1).toNat * 5)).off + 1, none⟩ = some (.int .i8 ((rd_T43 l1 x5_1).f0.f1)) ∧ w'.cell? ⟨(ad198.add ((x5_1).toNat * 5)).block, (ad198.add ((x5_1).toNat * 5)).off + 2, none⟩ = some (.int .i8 ((rd_T43 l1 x5_1).f1)) ∧ w'.cell? ⟨(ad198.add ((x5_1).toNat * 5)).block, (ad198.add ((x5_1).toNat * 5)).off + 3, none⟩ = some (.int .i8 ((rd_T43 l1 x5_1).f2)) ∧ w'.cell? ⟨(ad198.add ((x5_1).toNat * 5)).block, (ad198.add ((x5_1).toNat * 5)).off + 4, none⟩ = some (.int .i8 ((rd_T43 l1 x5_1).f3))) (ds := []) (zq 10 0) (by kernel_rfl) rfl rfl ⟨(zc HB hw197_0), (zc HB hw197_1), (zc HB hw197_2), (zc HB hw197_3), (zc HB hw197_4), (zc HB hw198_0), (zc HB hw198_1), (zc HB hw198_2), (zc HB hw198_3), (zc HB hw198_4)⟩ (fun hHeld => ?_); refine with_tabW laws_eqPieceS.tab6 laws_eqPieceS.bits6 (fun HT_ HW_ => ?_)
  generalize wr.drew = w9 at HB hx197_0 hx197_1 hx197_2 hx197_3 hx197_4 hx198_0 hx198_1 hx198_2 hx198_3 hx198_4 hHeld ⊢
  refine zpu 0 (some 17) (zq 10 1) HT_ ?_
  refine zpu 1 (some 18) (zq 10 3) HT_ ?_
  refine zpu 2 (some 19) (zq 10 7) HT_ ?_
  refine zpu 4 (some 21) (zq 10 23) HT_ ?_
  refine zpu 5 (some 22) (zq 10 55) HT_ ?_
  refine zpu 6 (some 23) (zq 10 119) HT_ ?_
  refine ztk 3 (some 20) (zq 10 127) HT_ HW_ rfl hHeld (Or.inl ⟨by rfl, by (rintro w' ⟨s0, s1, s2, s3, s4, s5, s6, s7, s8, s9⟩; go_simp; with_reducible rfl)⟩) ?_
  refine ztk 7 (some 24) (zq 10 255) HT_ HW_ rfl hHeld (Or.inl ⟨by rfl, by (rintro w' ⟨s0, s1, s2, s3, s4, s5, s6, s7, s8, s9⟩; go_simp; with_reducible rfl)⟩) ?_
  refine one_ (i := 8) (N := some 25) (zq 10 511) rfl rfl (one_of HT_.out (by kernel_rfl)) (by decide) (fun K hK => ?_)
  refine goes_ Try.func35 (by kernel_rfl) rfl #[.agg #[.int .i8 ((rd_T43 l0 x5_1).f0.f0), .int .i8 ((rd_T43 l0 x5_1).f0.f1), .int .i8 ((rd_T43 l0 x5_1).f1), .int .i8 ((rd_T43 l0 x5_1).f2), .int .i8 ((rd_T43 l0 x5_1).f3)], .agg #[.int .i8 ((rd_T43 l1 x5_1).f0.f0), .int .i8 ((rd_T43 l1 x5_1).f0.f1), .int .i8 ((rd_T43 l1 x5_1).f1), .int .i8 ((rd_T43 l1 x5_1).f2), .int .i8 ((rd_T43 l1 x5_1).f3)]] (by rfl) rfl rfl zm ?_
  with_reducible refine (laws_eqPiece.calls k1 ((rd_T43 l0 x5_1).f0.f0) ((rd_T43 l0 x5_1).f0.f1) ((rd_T43 l0 x5_1).f1) ((rd_T43 l0 x5_1).f2) ((rd_T43 l0 x5_1).f3) ((rd_T43 l1 x5_1).f0.f0) ((rd_T43 l1 x5_1).f0.f1) ((rd_T43 l1 x5_1).f1) ((rd_T43 l1 x5_1).f2) ((rd_T43 l1 x5_1).f3) true _ A7.out).mono ?_
  rintro e w10 ⟨rfl, hb⟩
  refine ⟨_, rfl, ?_⟩
  have n0_ := zb HB hb
  clear HB
  have HB := n0_
  clear n0_
  (try clear hb)
  (try clear hb2)
  (try clear hk)
  (try clear hi)
  refine hK.out _ _ ⟨(zc HB hw197_0), (zc HB hw197_1), (zc HB hw197_2), (zc HB hw197_3), (zc HB hw197_4), (zc HB hw198_0), (zc HB hw198_1), (zc HB hw198_2), (zc HB hw198_3), (zc HB hw198_4)⟩ (fun hHeld => ?_)
  clear hK K
  refine norm_ (a' := ?_) ?_ ?_
  rotate_left
  ·show Act.put _ (some 25) _ = _
   exact zap
  refine zpu 9 (some 26) (zq 10 1023) HT_ ?_
  refine done_ (done_of HT_.out (by kernel_rfl)) ?_
  try go_wp2
  go_roundg k1
  case measure => have := HK1.out; omega
  case rel => exact ⟨(wrap64 (x5_1 + 1)), zi, H', ⟨by have := HK1.out; omega⟩, zl HB⟩
 replace c8 := Bool.eq_false_iff.mpr c8
 subst c8
 have H1 : (some false) = some r := by rw [if_neg (show ¬ (false = true) by decide)] at H; exact H
 clear H
 have H := H1
 clear H1
 obtain rfl := Option.some.inj H
 try go_wp2
 have n0_ := Aside0.mk (below_drew1 HB.out)
 clear HB
 have HB := n0_
 clear n0_
 have p197 : 0 ≤ (x5_1 : Int) := of_decide_eq_true zA
 have q197 : x5_1 < (l0.length : Int) := of_decide_eq_true zA
 obtain ⟨ad197, e197, hx197_0, hx197_1, hx197_2, hx197_3, hx197_4⟩ := at_T43 HR0.out x5_1 p197 q197
 have hw197_4 := hx197_4
 have hw197_3 := hx197_3
 have hw197_2 := hx197_2
 have hw197_1 := hx197_1
 have hw197_0 := hx197_0
 cases e197
 replace hx197_0 := zc HB hx197_0
 replace hx197_1 := zc HB hx197_1
 replace hx197_2 := zc HB hx197_2
 replace hx197_3 := zc HB hx197_3
 replace hx197_4 := zc HB hx197_4
 replace p197 := eq_true p197
 replace q197 := eq_true q197
 have p198 : 0 ≤ (x5_1 : Int) := of_decide_eq_true zA
 have q198 : x5_1 < (l1.length : Int) := of_decide_eq_true zA
 obtain ⟨ad198, e198, hx198_0, hx198_1, hx198_2, hx198_3, hx198_4⟩ := at_T43 HR1.out x5_1 p198 q198
 have hw198_4 := hx198_4
 have hw198_3 := hx198_3
 have hw198_2 := hx198_2
 have hw198_1 := hx198_1
 have hw198_0 := hx198_0
 cases e198
 replace hx198_0 := zc HB hx198_0
 replace hx198_1 := zc HB hx198_1
 replace hx198_2 := zc HB hx198_2
 replace hx198_3 := zc HB hx198_3
 replace hx198_4 := zc HB hx198_4
 replace p198 := eq_true p198
 replace q198 := eq_true q198
 refine start_ (n := 10) (S := fun w' => w'.cell? (ad197.add ((x5_1).toNat * 5)) = some (.int .i8 ((rd_T43 l0 x5_1).f0.f0)) ∧ w'.cell? ⟨(ad197.add ((x5_1).toNat * 5)).block, (ad197.add ((x5_1).toNat * 5)).off + 1, none⟩ = some (.int .i8 ((rd_T43 l0 x5_1).f0.f1)) ∧ w'.cell? ⟨(ad197.add ((x5_1).toNat * 5)).block, (ad197.add ((x5_1).toNat * 5)).off + 2, none⟩ = some (.int .i8 ((rd_T43 l0 x5_1).f1)) ∧ w'.cell? ⟨(ad197.add ((x5_1).toNat * 5)).block, (ad197.add ((x5_1).toNat * 5)).off + 3, none⟩ = some (.int .i8 ((rd_T43 l0 x5_1).f2)) ∧ w'.cell? ⟨(ad197.add ((x5_1).toNat * 5)).block, (ad197.add ((x5_1).toNat * 5)).off + 4, none⟩ = some (.int .i8 ((rd_T43 l0 x5_1).f3)) ∧ w'.cell? (ad198.add ((x5_1).toNat * 5)) = some (.int .i8 ((rd_T43 l1 x5_1).f0.f0)) ∧ w'.cell? ⟨(ad198.add ((x5_1).toNat * 5)).block, (ad198.add ((x5_1).toNat * 5)).off + 1, none⟩ = some (.int .i8 ((rd_T43 l1 x5_1).f0.f1)) ∧ w'.cell? ⟨(ad198.add ((x5_1).toNat * 5)).block, (ad198.add ((x5_1).toNat * 5)).off + 2, none⟩ = some (.int .i8 ((rd_T43 l1 x5_1).f1)) ∧ w'.cell? ⟨(ad198.add ((x5_1).toNat * 5)).block, (ad198.add ((x5_1).toNat * 5)).off + 3, none⟩ = some (.int .i8 ((rd_T43 l1 x5_1).f2)) ∧ w'.cell? ⟨(ad198.add ((x5_1).toNat * 5)).block, (ad198.add ((x5_1).toNat * 5)).off + 4, none⟩ = some (.int .i8 ((rd_T43 l1 x5_1).f3))) (ds := []) (zq 10 0) (by kernel_rfl) rfl rfl ⟨(zc HB hw197_0), (zc HB hw197_1), (zc HB hw197_2), (zc HB hw197_3), (zc HB hw197_4), (zc HB hw198_0), (zc HB hw198_1), (zc HB hw198_2), (zc HB hw198_3), (zc HB hw198_4)⟩ (fun hHeld => ?_); refine with_tabW laws_eqPieceS.tab6 laws_eqPieceS.bits6 (fun HT_ HW_ => ?_)
 generalize wr.drew = w11 at HB hx197_0 hx197_1 hx197_2 hx197_3 hx197_4 hx198_0 hx198_1 hx198_2 hx198_3 hx198_4 hHeld ⊢
 refine zpu 0 (some 17) (zq 10 1) HT_ ?_
 refine zpu 1 (some 18) (zq 10 3) HT_ ?_
 refine zpu 2 (some 19) (zq 10 7) HT_ ?_
 refine zpu 4 (some 21) (zq 10 23) HT_ ?_
 refine zpu 5 (some 22) (zq 10 55) HT_ ?_
 refine zpu 6 (some 23) (zq 10 119) HT_ ?_
 refine ztk 3 (some 20) (zq 10 127) HT_ HW_ rfl hHeld (Or.inl ⟨by rfl, by (rintro w' ⟨s0, s1, s2, s3, s4, s5, s6, s7, s8, s9⟩; go_simp; with_reducible rfl)⟩) ?_
 refine ztk 7 (some 24) (zq 10 255) HT_ HW_ rfl hHeld (Or.inl ⟨by rfl, by (rintro w' ⟨s0, s1, s2, s3, s4, s5, s6, s7, s8, s9⟩; go_simp; with_reducible rfl)⟩) ?_
 refine one_ (i := 8) (N := some 25) (zq 10 511) rfl rfl (one_of HT_.out (by kernel_rfl)) (by decide) (fun K hK => ?_)
 refine goes_ Try.func35 (by kernel_rfl) rfl #[.agg #[.int .i8 ((rd_T43 l0 x5_1).f0.f0), .int .i8 ((rd_T43 l0 x5_1).f0.f1), .int .i8 ((rd_T43 l0 x5_1).f1), .int .i8 ((rd_T43 l0 x5_1).f2), .int .i8 ((rd_T43 l0 x5_1).f3)], .agg #[.int .i8 ((rd_T43 l1 x5_1).f0.f0), .int .i8 ((rd_T43 l1 x5_1).f0.f1), .int .i8 ((rd_T43 l1 x5_1).f1), .int .i8 ((rd_T43 l1 x5_1).f2), .int .i8 ((rd_T43 l1 x5_1).f3)]] (by rfl) rfl rfl zm ?_
 with_reducible refine (laws_eqPiece.calls k1 ((rd_T43 l0 x5_1).f0.f0) ((rd_T43 l0 x5_1).f0.f1) ((rd_T43 l0 x5_1).f1) ((rd_T43 l0 x5_1).f2) ((rd_T43 l0 x5_1).f3) ((rd_T43 l1 x5_1).f0.f0) ((rd_T43 l1 x5_1).f0.f1) ((rd_T43 l1 x5_1).f1) ((rd_T43 l1 x5_1).f2) ((rd_T43 l1 x5_1).f3) false _ A7.out).mono ?_
 rintro e w12 ⟨rfl, hb⟩
 refine ⟨_, rfl, ?_⟩
 have n0_ := zb HB hb
 clear HB
 have HB := n0_
 clear n0_
 (try clear hb)
 (try clear hb2)
 (try clear hk)
 (try clear hi)
 refine hK.out _ _ ⟨(zc HB hw197_0), (zc HB hw197_1), (zc HB hw197_2), (zc HB hw197_3), (zc HB hw197_4), (zc HB hw198_0), (zc HB hw198_1), (zc HB hw198_2), (zc HB hw198_3), (zc HB hw198_4)⟩ (fun hHeld => ?_)
 clear hK K
 refine norm_ (a' := ?_) ?_ ?_
 rotate_left
 ·show Act.put _ (some 25) _ = _
  exact zap
 refine zpu 9 (some 26) (zq 10 1023) HT_ ?_
 refine done_ (done_of HT_.out (by kernel_rfl)) ?_
 try go_wp2
 go_ret
 exact ⟨zv, zbo⟩
def laws_eqBoard.f (k : Nat) (a0_0 : Int) (a0_1 : Int) (l0_2 : List (S43)) (a1_0 : Int) (a1_1 : Int) (l1_2 : List (S43)) : Option (Bool) := if a0_0 = a1_0 then (if a0_1 = a1_1 then ((laws_eqPieceS.f k l0_2 l1_2).bind fun t202 => (if t202 = true then (some true) else (some false))) else (some false)) else (some false)
theorem laws_eqBoard.mono : ∀ a0 a1 a2 a3 a4 a5 k, LeO (laws_eqBoard.f k a0 a1 a2 a3 a4 a5) (laws_eqBoard.f (k + 1) a0 a1 a2 a3 a4 a5) := by
 intro a0 a1 a2 a3 a4 a5 k
 unfold laws_eqBoard.f
 repeat' first | (with_reducible first | apply laws_eqPieceS.mono | exact LeO.refl _ | exact LeO.none _ | refine LeO.ite ?_ ?_ | refine LeO.bind ?_ (fun _ => ?_)) | apply laws_eqPieceS.mono | exact LeO.none _ | refine LeO.ite ?_ ?_ | refine LeO.bind ?_ (fun _ => ?_)
theorem laws_eqBoard.calls (k : Nat) (a0_0 : Int) (a0_1 : Int) (A0_2 : Option Addr) (c0_2 : Nat) (l0_2 : List (S43)) (a1_0 : Int) (a1_1 : Int) (A1_2 : Option Addr) (c1_2 : Nat) (l1_2 : List (S43)) (r : Bool) (w : World) (hr0_2 : Kd.C k43 w A0_2 l0_2.length l0_2) (hc0_2 : l0_2.length ≤ c0_2) (hr1_2 : Kd.C k43 w A1_2 l1_2.length l1_2) (hc1_2 : l1_2.length ≤ c1_2) (h : laws_eqBoard.f k a0_0 a0_1 l0_2 a1_0 a1_1 l1_2 = some r) :
    Calls Try.prog 8 #[.agg #[.int .i8 a0_0, .int .i8 a0_1, .slice A0_2 l0_2.length c0_2], .agg #[.int .i8 a1_0, .int .i8 a1_1, .slice A1_2 l1_2.length c1_2]] w fun e w' => e = .returned (.bool r) ∧ Below w.heap.size w w' := by
 have hu29 := Try.underlying29
 have HR0_2 := Aside0.mk hr0_2
 have HC0_2 := Aside0.mk hc0_2
 clear hr0_2 hc0_2
 have HR1_2 := Aside0.mk hr1_2
 have HC1_2 := Aside0.mk hc1_2
 clear hr1_2 hc1_2
 have HB := Aside0.mk (Below.refl w.heap.size w)
 have H : (if a0_0 = a1_0 then (if a0_1 = a1_1 then ((laws_eqPieceS.f k l0_2 l1_2).bind fun t202 => (if t202 = true then (some true) else (some false))) else (some false)) else (some false)) = some r := h
 clear h
 by_cases c3 : a0_0 = a1_0
 rotate_left
 ·rw [if_neg c3] at H
  have c3b0 : (a0_0 == a1_0) = false := beq_eq_false_iff_ne.mpr c3
  have c3b1 : (a0_0 != a1_0) = true := bne_iff_ne.mpr c3
  obtain rfl := Option.some.inj H
  go_enter Try.func8, Try.ntmps8
  go_wp2_with (first | ((with_reducible refine gate_dst (N := 2) rfl ?_); refine zbx 2 #[.int .i8 a0_0, .int .i8 a0_1, .slice A0_2 l0_2.length c0_2] 29 ?_; intro gb200 hg w24 hbox hb; have n_ : _ ∧ _ ∧ _ ∧ _ := ⟨zb HB hb, Aside0.mk (hbox), zg HB hg, zg HB hg⟩; clear HB; obtain ⟨HB, BK200, GW200, GE200⟩ := n_; clear hb hbox hg) | ((with_reducible refine gate_dst (N := 3) rfl ?_); refine zbx 3 #[.int .i8 a1_0, .int .i8 a1_1, .slice A1_2 l1_2.length c1_2] 29 ?_; intro gb201 hg w25 hbox hb; have n_ : _ ∧ _ ∧ _ ∧ _ ∧ _ ∧ _ ∧ _ := ⟨zk BK200 hb, zbs hb, Aside0.mk (hbox), zg HB hg, zg HB hg, zn1 BK200 hg, zn2 BK200 hg⟩; clear BK200 HB; obtain ⟨BK200, HB, BK201, GW201, GE201, NB200_201, NB201_200⟩ := n_; clear hb hbox hg; have hnb26 := NB200_201.out; have hnc26 := NB201_200.out; obtain ⟨z27_0, z27_1, z27_2, y27_0, y27_1, y27_2⟩ := zB3 BK200; obtain ⟨z28_0, z28_1, z28_2, y28_0, y28_1, y28_2⟩ := zB3 BK201))
  go_ret
  exact ⟨zv, zbo⟩
 rw [if_pos c3] at H
 have c3b0 : (a0_0 == a1_0) = true := beq_iff_eq.mpr c3
 have c3b1 : (a0_0 != a1_0) = false := bne_eq_false_iff_eq.mpr c3
 clear c3
 by_cases c4 : a0_1 = a1_1
 rotate_left
 ·rw [if_neg c4] at H
  have c4b0 : (a0_1 == a1_1) = false := beq_eq_false_iff_ne.mpr c4
  have c4b1 : (a0_1 != a1_1) = true := bne_iff_ne.mpr c4
  obtain rfl := Option.some.inj H
  go_enter Try.func8, Try.ntmps8
  go_wp2_with (first | ((with_reducible refine gate_dst (N := 2) rfl ?_); refine zbx 2 #[.int .i8 a0_0, .int .i8 a0_1, .slice A0_2 l0_2.length c0_2] 29 ?_; intro gb200 hg w19 hbox hb; have n_ : _ ∧ _ ∧ _ ∧ _ := ⟨zb HB hb, Aside0.mk (hbox), zg HB hg, zg HB hg⟩; clear HB; obtain ⟨HB, BK200, GW200, GE200⟩ := n_; clear hb hbox hg) | ((with_reducible refine gate_dst (N := 3) rfl ?_); refine zbx 3 #[.int .i8 a1_0, .int .i8 a1_1, .slice A1_2 l1_2.length c1_2] 29 ?_; intro gb201 hg w20 hbox hb; have n_ : _ ∧ _ ∧ _ ∧ _ ∧ _ ∧ _ ∧ _ := ⟨zk BK200 hb, zbs hb, Aside0.mk (hbox), zg HB hg, zg HB hg, zn1 BK200 hg, zn2 BK200 hg⟩; clear BK200 HB; obtain ⟨BK200, HB, BK201, GW201, GE201, NB200_201, NB201_200⟩ := n_; clear hb hbox hg; have hnb21 := NB200_201.out; have hnc21 := NB201_200.out; obtain ⟨z22_0, z22_1, z22_2, y22_0, y22_1, y22_2⟩ := zB3 BK200; obtain ⟨z23_0, z23_1, z23_2, y23_0, y23_1, y23_2⟩ := zB3 BK201))
  go_ret
  exact ⟨zv, zbo⟩
 rw [if_pos c4] at H
 have c4b0 : (a0_1 == a1_1) = true := beq_iff_eq.mpr c4
 have c4b1 : (a0_1 != a1_1) = false := bne_eq_false_iff_eq.mpr c4
 clear c4
 replace H := zob H
 obtain ⟨t202, A50, H⟩ := H
 replace H : (if t202 = true then (some true) else (some false)) = some r := H
 have A5 := Aside0.mk A50
 clear A50
 by_cases c6 : t202 = true
 ·subst c6
  have H1 : (some true) = some r := by rw [if_pos rfl] at H; exact H
  clear H
  have H := H1
  clear H1
  obtain rfl := Option.some.inj H
  go_enter Try.func8, Try.ntmps8
  go_wp2_with (first | ((with_reducible refine gate_dst (N := 2) rfl ?_); refine zbx 2 #[.int .i8 a0_0, .int .i8 a0_1, .slice A0_2 l0_2.length c0_2] 29 ?_; intro gb200 hg w7 hbox hb; have n_ : _ ∧ _ ∧ _ ∧ _ := ⟨zb HB hb, Aside0.mk (hbox), zg HB hg, zg HB hg⟩; clear HB; obtain ⟨HB, BK200, GW200, GE200⟩ := n_; clear hb hbox hg) | ((with_reducible refine gate_dst (N := 3) rfl ?_); refine zbx 3 #[.int .i8 a1_0, .int .i8 a1_1, .slice A1_2 l1_2.length c1_2] 29 ?_; intro gb201 hg w8 hbox hb; have n_ : _ ∧ _ ∧ _ ∧ _ ∧ _ ∧ _ ∧ _ := ⟨zk BK200 hb, zbs hb, Aside0.mk (hbox), zg HB hg, zg HB hg, zn1 BK200 hg, zn2 BK200 hg⟩; clear BK200 HB; obtain ⟨BK200, HB, BK201, GW201, GE201, NB200_201, NB201_200⟩ := n_; clear hb hbox hg; have hnb9 := NB200_201.out; have hnc9 := NB201_200.out; obtain ⟨z10_0, z10_1, z10_2, y10_0, y10_1, y10_2⟩ := zB3 BK200; obtain ⟨z11_0, z11_1, z11_2, y11_0, y11_1, y11_2⟩ := zB3 BK201) | ((with_reducible refine gate_callee (f := 21) rfl ?_); refine goesL_ (some 19) rfl rfl Try.func21 (by kernel_rfl) rfl #[.slice A0_2 l0_2.length c0_2, .slice A1_2 l1_2.length c1_2] rfl zm ?_; (with_reducible refine (laws_eqPieceS.calls k _ _ l0_2 _ _ l1_2 true _ ?side1 ?side2 ?side3 ?side4 A5.out).mono ?_); (case side1 => exact zcc HB HR0_2.out); (case side2 => exact HC0_2.out); (case side3 => exact zcc HB HR1_2.out); (case side4 => exact HC1_2.out); rintro e w12 ⟨rfl, hb⟩; refine ⟨_, rfl, ?_⟩; have n_ : _ ∧ _ ∧ _ := ⟨zk BK200 hb, zk BK201 hb, zbs hb⟩; clear BK200 BK201 HB; obtain ⟨BK200, BK201, HB⟩ := n_; (try clear hb); (try clear hb2); (try clear hk); (try clear hi)))
  go_ret
  exact ⟨zv, zbo⟩
 replace c6 := Bool.eq_false_iff.mpr c6
 subst c6
 have H1 : (some false) = some r := by rw [if_neg (show ¬ (false = true) by decide)] at H; exact H
 clear H
 have H := H1
 clear H1
 obtain rfl := Option.some.inj H
 go_enter Try.func8, Try.ntmps8
 go_wp2_with (first | ((with_reducible refine gate_dst (N := 2) rfl ?_); refine zbx 2 #[.int .i8 a0_0, .int .i8 a0_1, .slice A0_2 l0_2.length c0_2] 29 ?_; intro gb200 hg w13 hbox hb; have n_ : _ ∧ _ ∧ _ ∧ _ := ⟨zb HB hb, Aside0.mk (hbox), zg HB hg, zg HB hg⟩; clear HB; obtain ⟨HB, BK200, GW200, GE200⟩ := n_; clear hb hbox hg) | ((with_reducible refine gate_dst (N := 3) rfl ?_); refine zbx 3 #[.int .i8 a1_0, .int .i8 a1_1, .slice A1_2 l1_2.length c1_2] 29 ?_; intro gb201 hg w14 hbox hb; have n_ : _ ∧ _ ∧ _ ∧ _ ∧ _ ∧ _ ∧ _ := ⟨zk BK200 hb, zbs hb, Aside0.mk (hbox), zg HB hg, zg HB hg, zn1 BK200 hg, zn2 BK200 hg⟩; clear BK200 HB; obtain ⟨BK200, HB, BK201, GW201, GE201, NB200_201, NB201_200⟩ := n_; clear hb hbox hg; have hnb15 := NB200_201.out; have hnc15 := NB201_200.out; obtain ⟨z16_0, z16_1, z16_2, y16_0, y16_1, y16_2⟩ := zB3 BK200; obtain ⟨z17_0, z17_1, z17_2, y17_0, y17_1, y17_2⟩ := zB3 BK201) | ((with_reducible refine gate_callee (f := 21) rfl ?_); refine goesL_ (some 19) rfl rfl Try.func21 (by kernel_rfl) rfl #[.slice A0_2 l0_2.length c0_2, .slice A1_2 l1_2.length c1_2] rfl zm ?_; (with_reducible refine (laws_eqPieceS.calls k _ _ l0_2 _ _ l1_2 false _ ?side1 ?side2 ?side3 ?side4 A5.out).mono ?_); (case side1 => exact zcc HB HR0_2.out); (case side2 => exact HC0_2.out); (case side3 => exact zcc HB HR1_2.out); (case side4 => exact HC1_2.out); rintro e w18 ⟨rfl, hb⟩; refine ⟨_, rfl, ?_⟩; have n_ : _ ∧ _ ∧ _ := ⟨zk BK200 hb, zk BK201 hb, zbs hb⟩; clear BK200 BK201 HB; obtain ⟨BK200, BK201, HB⟩ := n_; (try clear hb); (try clear hb2); (try clear hk); (try clear hi)))
 go_ret
 exact ⟨zv, zbo⟩
mutual
def laws_markPieceS.l0 : Nat → List (S43) → Int → Int → Option (Int × (List (S43)))
  | 0, _, _, _ => none
  | k + 1, x0, x1, x5 => if x5 < (x0.length : Int) then (laws_markPieceS.l1 k x0 x1 x5 0) else (some (x1, x0))
def laws_markPieceS.l1 : Nat → List (S43) → Int → Int → Int → Option (Int × (List (S43)))
  | 0, _, _, _, _ => none
  | k + 1, x0, x1, x5, x6 => if x6 < 2 then (if 0 ≤ x5 then (if x5 < (x0.length : Int) then (if x6 = 0 then (laws_markPieceS.l1 k (x0.set (x5 : Int).toNat (⟨(⟨IntKind.i8.wrap (x1), (rd_T43 x0 x5).f0.f1⟩ : S41), (rd_T43 x0 x5).f1, (rd_T43 x0 x5).f2, (rd_T43 x0 x5).f3⟩ : S43)) (wrap64 (x1 + 1)) x5 (wrap64 (x6 + 1))) else (if x6 = 1 then (laws_markPieceS.l1 k (x0.set (x5 : Int).toNat (⟨(⟨(rd_T43 x0 x5).f0.f0, IntKind.i8.wrap (x1)⟩ : S41), (rd_T43 x0 x5).f1, (rd_T43 x0 x5).f2, (rd_T43 x0 x5).f3⟩ : S43)) (wrap64 (x1 + 1)) x5 (wrap64 (x6 + 1))) else (none))) else (none)) else (none)) else (if 0 ≤ x5 then (if x5 < (x0.length : Int) then ((some (x0.set (x5 : Int).toNat (⟨(⟨(rd_T43 x0 x5).f0.f0, (rd_T43 x0 x5).f0.f1⟩ : S41), IntKind.i8.wrap (x1), (rd_T43 x0 x5).f2, (rd_T43 x0 x5).f3⟩ : S43) : List (S43))).bind fun y205 => ((some (y205.set (x5 : Int).toNat (⟨(⟨(rd_T43 y205 x5).f0.f0, (rd_T43 y205 x5).f0.f1⟩ : S41), (rd_T43 y205 x5).f1, IntKind.i8.wrap (wrap64 (x1 + 1)), (rd_T43 y205 x5).f3⟩ : S43) : List (S43))).bind fun y206 => (laws_markPieceS.l0 k (y206.set (x5 : Int).toNat (⟨(⟨(rd_T43 y206 x5).f0.f0, (rd_T43 y206 x5).f0.f1⟩ : S41), (rd_T43 y206 x5).f1, (rd_T43 y206 x5).f2, IntKind.i8.wrap (wrap64 ((wrap64 (x1 + 1)) + 1))⟩ : S43)) (wrap64 ((wrap64 ((wrap64 (x1 + 1)) + 1)) + 1)) (wrap64 (x5 + 1))))) else (none)) else (none))
end
def laws_markPieceS.f (k : Nat) (l0 : List (S43)) (a1 : Int) : Option (Int × (List (S43))) := laws_markPieceS.l0 k l0 a1 0
theorem laws_markPieceS.mono_l : ∀ k, (∀ y0 y1 y2, LeO (laws_markPieceS.l0 k y0 y1 y2) (laws_markPieceS.l0 (k + 1) y0 y1 y2)) ∧ (∀ y0 y1 y2 y3, LeO (laws_markPieceS.l1 k y0 y1 y2 y3) (laws_markPieceS.l1 (k + 1) y0 y1 y2 y3))
  | 0 => ⟨fun _ _ _ r h => by simp [laws_markPieceS.l0] at h, fun _ _ _ _ r h => by simp [laws_markPieceS.l1] at h⟩
  | k + 1 => by
    obtain ⟨ih0, ih1⟩ := laws_markPieceS.mono_l k
    refine ⟨?_, ?_⟩
    · intro y0 y1 y2
      unfold laws_markPieceS.l0
      repeat' first | (with_reducible first | apply ih0 | apply ih1 | exact LeO.refl _ | exact LeO.none _ | refine LeO.ite ?_ ?_ | refine LeO.bind ?_ (fun _ => ?_)) | apply ih0 | apply ih1 | exact LeO.none _ | refine LeO.ite ?_ ?_ | refine LeO.bind ?_ (fun _ => ?_)
    · intro y0 y1 y2 y3
      unfold laws_markPieceS.l1
      repeat' first | (with_reducible first | apply ih0 | apply ih1 | exact LeO.refl _ | exact LeO.none _ | refine LeO.ite ?_ ?_ | refine LeO.bind ?_ (fun _ => ?_)) | apply ih0 | apply ih1 | exact LeO.none _ | refine LeO.ite ?_ ?_ | refine LeO.bind ?_ (fun _ => ?_)
theorem laws_markPieceS.mono : ∀ a0 a1 k, LeO (laws_markPieceS.f k a0 a1) (laws_markPieceS.f (k + 1) a0 a1) := by
 intro a0 a1 k
 obtain ⟨ih0, ih1⟩ := laws_markPieceS.mono_l k
 unfold laws_markPieceS.f
 repeat' first | (with_reducible first | apply ih0 | apply ih1 | exact LeO.refl _ | exact LeO.none _ | refine LeO.ite ?_ ?_ | refine LeO.bind ?_ (fun _ => ?_)) | apply ih0 | apply ih1 | exact LeO.none _ | refine LeO.ite ?_ ?_ | refine LeO.bind ?_ (fun _ => ?_)
theorem laws_markPieceS.calls (k : Nat) (P0_ : Nat → Prop) (u9000_ : Value) (l0 : List (S43)) (a1 : Int) (r1 : Int) (r2 : List (S43)) (w0 w : World) (hB : Below w0.heap.size w0 w) (ho0 : Kd.R k43 43 w w0.heap.size P0_ u9000_ l0) (h : laws_markPieceS.f k l0 a1 = some (r1, r2)) :
    Calls Try.prog 22 #[u9000_, .int .i64 a1] w fun e w' => e = .returned (.int .i64 r1) ∧ Kd.R k43 43 w' w0.heap.size (fun k_ => (P0_ k_ ∨ w.heap.size ≤ k_)) u9000_ r2 ∧ Below w0.heap.size w0 w' ∧ Kept w w' (fun k_ => P0_ k_) := by
 have HO0 := Aside0.mk (show Kd.R k43 43 w w0.heap.size (fun k_ => (P0_ k_ ∨ w.heap.size ≤ k_)) u9000_ l0 from Kd.R_mono ho0 (fun k_ hk => (.inl hk)))
 have HK := Aside0.mk (Kept.refl w (fun k_ => P0_ k_))
 have HW0 := Aside0.mk hB.size
 have HB := Aside0.mk hB
 clear hB
 have H : (laws_markPieceS.l0 k l0 a1 0) = some (r1, r2) := h
 clear h
 have H' := Aside0.mk H
 clear H
 go_enter Try.func22, Try.ntmps22
 go_wp2
 go_loopg [1, 5] k (fun kq v1 v5 w' => ∃ (x0_1 : List (S43)) (x1_1 : Int) (x5_1 : Int), v1 = .int .i64 x1_1 ∧ v5 = .int .i64 x5_1 ∧ Aside0 (laws_markPieceS.l0 kq x0_1 x1_1 x5_1 = some (r1, r2)) ∧ Aside0 (kq ≤ k) ∧ Aside0 (Kd.R k43 43 w' w0.heap.size (fun k_ => (P0_ k_ ∨ w.heap.size ≤ k_)) u9000_ x0_1) ∧ Aside0 (Kept w w' (fun k_ => P0_ k_)) ∧ Aside0 (Below w0.heap.size w0 w'))
 case atStart => exact ⟨(l0), (a1), (0), zi, zi, H', ⟨Nat.le_refl _⟩, ze HO0, ⟨by repeat (first | (with_reducible first | exact HK.out | apply Kept.alloc | apply Kept.drewN | apply Kept.drew) | exact HK.out)⟩, zl HB⟩
 clear H'
 try clear c2
 try clear p2
 obtain ⟨x0_1, x1_1, x5_1, rfl, rfl, HA, HK1, HO_0, HK, HB⟩ := hrel
 cases gk with
 | zero => exact absurd HA.out (by simp [laws_markPieceS.l0])
 | succ k1 => ?_
 have H := HA.out
 clear HA
 simp only [laws_markPieceS.l0] at H
 by_cases c3 : x5_1 < (x0_1.length : Int)
 rotate_left
 ·rw [if_neg c3] at H
  have c3b0 : decide (x5_1 < (x0_1.length : Int)) = false := decide_eq_false c3
  clear c3
  simp only [Option.some.injEq, Prod.mk.injEq] at H
  obtain ⟨rfl, rfl⟩ := H
  obtain ⟨Ao28, co28, eo28⟩ := Kd.R_slice HO_0.out
  subst eo28
  go_wp2
  go_ret
  exact ⟨zv, by (with_reducible repeat (first | apply Kd.R_alloc | apply Kd.R_drewN | apply Kd.R_drew)); exact HO_0.out, zbo, by repeat (first | (with_reducible first | exact HK.out | apply Kept.alloc | apply Kept.drewN | apply Kept.drew) | exact HK.out)⟩
 rw [if_pos c3] at H
 have c3b0 : decide (x5_1 < (x0_1.length : Int)) = true := decide_eq_true c3
 clear c3
 have H' := Aside0.mk H
 clear H
 obtain ⟨Ao4, co4, eo4⟩ := Kd.R_slice HO_0.out
 subst eo4
 go_wp2
 go_loopg [1, 6] k1 (fun kq v1 v6 w' => ∃ (x0_2 : List (S43)) (x1_2 : Int) (x6_2 : Int), v1 = .int .i64 x1_2 ∧ v6 = .int .i64 x6_2 ∧ Aside0 (laws_markPieceS.l1 kq x0_2 x1_2 x5_1 x6_2 = some (r1, r2)) ∧ Aside0 (kq ≤ k1) ∧ Aside0 (Kd.R k43 43 w' w0.heap.size (fun k_ => (P0_ k_ ∨ w.heap.size ≤ k_)) (.slice Ao4 x0_1.length co4) x0_2) ∧ Aside0 (Kept w w' (fun k_ => P0_ k_)) ∧ Aside0 (Below w0.heap.size w0 w'))
 case atStart => exact ⟨(x0_1), (x1_1), (0), zi, zi, H', ⟨Nat.le_refl _⟩, ze HO_0, ⟨by repeat (first | (with_reducible first | exact HK.out | apply Kept.alloc | apply Kept.drewN | apply Kept.drew) | exact HK.out)⟩, zl HB⟩
 clear H'
 try clear c2
 try clear p2
 try clear c3
 try clear c3b0
 try clear p2
 obtain ⟨x0_2, x1_2, x6_2, rfl, rfl, HA, HK2, HO_0, HK, HB⟩ := hrel
 have hl0_2 := (Kd.R_reads' HO_0.out).1
 rw [hl0_2] at HO_0
 (try simp only [hl0_2])
 cases gk with
 | zero => exact absurd HA.out (by simp [laws_markPieceS.l1])
 | succ k2 => ?_
 have H := HA.out
 clear HA
 simp only [laws_markPieceS.l1] at H
 by_cases c5 : x6_2 < 2
 ·rw [if_pos c5] at H
  have c5b0 : decide (x6_2 < 2) = true := decide_eq_true c5
  clear c5
  by_cases c6 : 0 ≤ x5_1
  rotate_left
  ·rw [if_neg c6] at H
   exact absurd H (by simp)
  rw [if_pos c6] at H
  have c6b0 : decide (0 ≤ x5_1) = true := decide_eq_true c6
  clear c6
  by_cases c7 : x5_1 < (x0_2.length : Int)
  rotate_left
  ·rw [if_neg c7] at H
   exact absurd H (by simp)
  rw [if_pos c7] at H
  have c7b0 : decide (x5_1 < (x0_2.length : Int)) = true := decide_eq_true c7
  clear c7
  by_cases c9 : x6_2 = 0
  ·rw [if_pos c9] at H
   have Ac9 : Aside0 (x6_2 = 0) := ⟨c9⟩
   clear c9
   have ar10e : x6_2 = 0 := by first | exact (show Aside0 (x6_2 = 0) by assumption).out | exact beq_iff_eq.mp (by assumption) | omega
   have ar10n : (x6_2).toNat = 0 := by rw [ar10e]; rfl
   have ar10l : decide (0 ≤ x6_2) = true := decide_eq_true (by omega)
   have ar10L := eq_true (of_decide_eq_true ar10l)
   have ar10h : decide (x6_2 < 2) = true := decide_eq_true (by omega)
   have ar10H := eq_true (of_decide_eq_true ar10h)
   clear ar10e
   obtain ⟨y203, hy203⟩ : ∃ y_ : List (S43), y_ = (x0_2.set (x5_1 : Int).toNat (⟨(⟨IntKind.i8.wrap (x1_2), (rd_T43 x0_2 x5_1).f0.f1⟩ : S41), (rd_T43 x0_2 x5_1).f1, (rd_T43 x0_2 x5_1).f2, (rd_T43 x0_2 x5_1).f3⟩ : S43)) := ⟨_, rfl⟩
   replace H : (laws_markPieceS.l1 k2 y203 (wrap64 (x1_2 + 1)) x5_1 (wrap64 (x6_2 + 1))) = some (r1, r2) := by first | (rw [hy203]; with_reducible exact H) | (have H2_ := (Option.bind_some _ _).symm.trans H; rw [hy203]; with_reducible exact H2_) | (have H2_ := (Option.bind_some _ _).symm.trans H; with_reducible exact H2_) | with_reducible exact H | (rw [hy203]; exact H) | exact H
   have Ny203 := Aside0.mk hy203
   clear hy203
   have H' := Aside0.mk H
   clear H
   have p8 : 0 ≤ (x5_1 : Int) := of_decide_eq_true zA
   have q8 : (x5_1 : Int) < ((x0_2.length : Int) : Int) := of_decide_eq_true zA
   obtain ⟨go8, co8, eo8, gb8, gl8, cl8, HG8⟩ := Kd.R_form HO_0.out (by omega)
   (first | cases eo8 | (injection eo8 with ea_ en_ ec_; (first | subst ea_ | (injection ea_ with ea_; subst ea_)); subst ec_; clear en_))
   have GB8 := Aside0.mk gb8
   have GG8 := Aside0.mk HG8
   clear gb8 gl8 HG8
   have HMgo8 := Aside0.mk (show (P0_ go8 ∨ w.heap.size ≤ go8) from (HO_0.out.1 _ rfl))
   obtain ⟨ce8, hcl8, hM8, hcc8, hfr8⟩ := Kd.R_elem HO_0.out z43 (x5_1 : Int) p8 q8
   obtain rfl := k43_openM hM8
   have hx8_0 : wr.cell? ⟨go8, (x5_1 : Int).toNat * 5, none⟩ = some (.int .i8 ((rd_T43 x0_2 x5_1).f0.f0)) := hcc8 0 _ rfl
   have hx8_1 : wr.cell? ⟨go8, (x5_1 : Int).toNat * 5 + 1, none⟩ = some (.int .i8 ((rd_T43 x0_2 x5_1).f0.f1)) := hcc8 1 _ rfl
   have hx8_2 : wr.cell? ⟨go8, (x5_1 : Int).toNat * 5 + 2, none⟩ = some (.int .i8 ((rd_T43 x0_2 x5_1).f1)) := hcc8 2 _ rfl
   have hx8_3 : wr.cell? ⟨go8, (x5_1 : Int).toNat * 5 + 3, none⟩ = some (.int .i8 ((rd_T43 x0_2 x5_1).f2)) := hcc8 3 _ rfl
   have hx8_4 : wr.cell? ⟨go8, (x5_1 : Int).toNat * 5 + 4, none⟩ = some (.int .i8 ((rd_T43 x0_2 x5_1).f3)) := hcc8 4 _ rfl
   have hf8_0 : wr.frozen? ⟨go8, (x5_1 : Int).toNat * 5, none⟩ = false := hfr8 0
   have hf8_1 : wr.frozen? ⟨go8, (x5_1 : Int).toNat * 5 + 1, none⟩ = false := hfr8 1
   have hf8_2 : wr.frozen? ⟨go8, (x5_1 : Int).toNat * 5 + 2, none⟩ = false := hfr8 2
   have hf8_3 : wr.frozen? ⟨go8, (x5_1 : Int).toNat * 5 + 3, none⟩ = false := hfr8 3
   have hf8_4 : wr.frozen? ⟨go8, (x5_1 : Int).toNat * 5 + 4, none⟩ = false := hfr8 4
   clear hcl8 hcc8 hfr8 hM8
   replace p8 := eq_true p8
   replace q8 := eq_true q8
   have HX11 := Aside0.mk (show Kd.R k43 43 wr w0.heap.size (fun k_ => (P0_ k_ ∨ w.heap.size ≤ k_)) (.slice (some ⟨go8, 0, none⟩) x0_2.length co4) x0_2 from (ze HO_0).out)
   obtain ⟨ce11, hcl11, hM11, hcc11, hfr11⟩ := Kd.R_elem HX11.out z43 (x5_1 : Int) (of_decide_eq_true zA) (zlt (x5_1 : Int) (x0_2.length : Int) (Kd.R_reads' HO_0.out).1)
   obtain rfl := k43_openM hM11
   have HP11 := Kd.R_seg HX11.out (x5_1 : Int) (of_decide_eq_true zA) (zlt (x5_1 : Int) (x0_2.length : Int) (Kd.R_reads' HO_0.out).1) (seg := [.int .i8 (IntKind.i8.wrap (x1_2))]) (j := 0) hcl11 hcc11 (show 1 ≤ 5 from by decide) (x' := (⟨(⟨IntKind.i8.wrap (x1_2), (rd_T43 x0_2 x5_1).f0.f1⟩ : S41), (rd_T43 x0_2 x5_1).f1, (rd_T43 x0_2 x5_1).f2, (rd_T43 x0_2 x5_1).f3⟩ : S43)) (k43_mkM _ _ _ (⟨(⟨IntKind.i8.wrap (x1_2), (rd_T43 x0_2 x5_1).f0.f1⟩ : S41), (rd_T43 x0_2 x5_1).f1, (rd_T43 x0_2 x5_1).f2, (rd_T43 x0_2 x5_1).f3⟩ : S43) ) (fun _ hk => hk)
   have hx11_0 := hcc11 0 _ rfl
   (try simp only [show (k43).sz = 5 from rfl, Nat.mul_one, Nat.add_zero] at hx11_0)
   have hf11_0 := hfr11 0
   (try simp only [show (k43).sz = 5 from rfl, Nat.mul_one, Nat.add_zero] at hf11_0)
   clear hcl11 hcc11 hfr11 hM11
   go_wp2_with (first | ((with_reducible refine gate_store (t := 22) (p := 24) rfl ?_); refine store_event (t := 22) (p := 24) (v := ?vo_w12) (w1 := (wr.setCell ⟨go8, (x5_1 : Int).toNat * 5, none⟩ (.int .i8 (IntKind.i8.wrap (x1_2))))) ?hg ?ho ?hn ?hr ?_; (case ho => rfl); (case hg => rfl); (case hn => rfl); (case hr => exact zgs); intro w12 hw; have hg : wr.grownBy w12 (some go8) := (by rw [hw]; exact HP11.2); have hp_ : Kd.R k43 43 w12 w0.heap.size (fun k_ => (P0_ k_ ∨ w.heap.size ≤ k_)) (.slice (some ⟨go8, 0, none⟩) x0_2.length co4) y203 := (by rw [hw, Ny203.out]; exact HP11.1); clear HP11; have n_ : _ ∧ _ ∧ _ := ⟨Aside0.mk (hp_), Aside0.mk ((by rw [hw]; exact below_set (HB.out) GB8.out : Below w0.heap.size w0 w12)), Aside0.mk (Kept.of_grown (S := (fun k_ => P0_ k_)) hg (by repeat (first | (with_reducible first | exact HK.out | apply Kept.alloc | apply Kept.drewN | apply Kept.drew) | exact HK.out)) (fun k_ e_ => (HO_0.out.1 k_ e_)))⟩; clear HO_0 HB HK; obtain ⟨HO_0, HB, HK⟩ := n_; clear hg hw hp_))
   (try simp only [← hl0_2])
   go_roundg k2
   case measure => have := HK1.out; have := HK2.out; omega
   case rel => exact ⟨(y203), (wrap64 (x1_2 + 1)), (wrap64 (x6_2 + 1)), zi, zi, H', ⟨by have := HK1.out; have := HK2.out; omega⟩, ⟨by (try simp only [hl0_2]); (with_reducible repeat (first | apply Kd.R_alloc | apply Kd.R_drewN | apply Kd.R_drew)); exact HO_0.out⟩, ⟨by repeat (first | (with_reducible first | exact HK.out | apply Kept.alloc | apply Kept.drewN | apply Kept.drew) | exact HK.out)⟩, zl HB⟩
  rw [if_neg c9] at H
  clear c9
  by_cases c13 : x6_2 = 1
  rotate_left
  ·rw [if_neg c13] at H
   exact absurd H (by simp)
  rw [if_pos c13] at H
  have Ac13 : Aside0 (x6_2 = 1) := ⟨c13⟩
  clear c13
  have ar14e : x6_2 = 1 := by first | exact (show Aside0 (x6_2 = 1) by assumption).out | exact beq_iff_eq.mp (by assumption) | omega
  have ar14n : (x6_2).toNat = 1 := by rw [ar14e]; rfl
  have ar14l : decide (0 ≤ x6_2) = true := decide_eq_true (by omega)
  have ar14L := eq_true (of_decide_eq_true ar14l)
  have ar14h : decide (x6_2 < 2) = true := decide_eq_true (by omega)
  have ar14H := eq_true (of_decide_eq_true ar14h)
  clear ar14e
  obtain ⟨y204, hy204⟩ : ∃ y_ : List (S43), y_ = (x0_2.set (x5_1 : Int).toNat (⟨(⟨(rd_T43 x0_2 x5_1).f0.f0, IntKind.i8.wrap (x1_2)⟩ : S41), (rd_T43 x0_2 x5_1).f1, (rd_T43 x0_2 x5_1).f2, (rd_T43 x0_2 x5_1).f3⟩ : S43)) := ⟨_, rfl⟩
  replace H : (laws_markPieceS.l1 k2 y204 (wrap64 (x1_2 + 1)) x5_1 (wrap64 (x6_2 + 1))) = some (r1, r2) := by first | (rw [hy204]; with_reducible exact H) | (have H2_ := (Option.bind_some _ _).symm.trans H; rw [hy204]; with_reducible exact H2_) | (have H2_ := (Option.bind_some _ _).symm.trans H; with_reducible exact H2_) | with_reducible exact H | (rw [hy204]; exact H) | exact H
  have Ny204 := Aside0.mk hy204
  clear hy204
  have H' := Aside0.mk H
  clear H
  have p8 : 0 ≤ (x5_1 : Int) := of_decide_eq_true zA
  have q8 : (x5_1 : Int) < ((x0_2.length : Int) : Int) := of_decide_eq_true zA
  obtain ⟨go8, co8, eo8, gb8, gl8, cl8, HG8⟩ := Kd.R_form HO_0.out (by omega)
  (first | cases eo8 | (injection eo8 with ea_ en_ ec_; (first | subst ea_ | (injection ea_ with ea_; subst ea_)); subst ec_; clear en_))
  have GB8 := Aside0.mk gb8
  have GG8 := Aside0.mk HG8
  clear gb8 gl8 HG8
  have HMgo8 := Aside0.mk (show (P0_ go8 ∨ w.heap.size ≤ go8) from (HO_0.out.1 _ rfl))
  obtain ⟨ce8, hcl8, hM8, hcc8, hfr8⟩ := Kd.R_elem HO_0.out z43 (x5_1 : Int) p8 q8
  obtain rfl := k43_openM hM8
  have hx8_0 : wr.cell? ⟨go8, (x5_1 : Int).toNat * 5, none⟩ = some (.int .i8 ((rd_T43 x0_2 x5_1).f0.f0)) := hcc8 0 _ rfl
  have hx8_1 : wr.cell? ⟨go8, (x5_1 : Int).toNat * 5 + 1, none⟩ = some (.int .i8 ((rd_T43 x0_2 x5_1).f0.f1)) := hcc8 1 _ rfl
  have hx8_2 : wr.cell? ⟨go8, (x5_1 : Int).toNat * 5 + 2, none⟩ = some (.int .i8 ((rd_T43 x0_2 x5_1).f1)) := hcc8 2 _ rfl
  have hx8_3 : wr.cell? ⟨go8, (x5_1 : Int).toNat * 5 + 3, none⟩ = some (.int .i8 ((rd_T43 x0_2 x5_1).f2)) := hcc8 3 _ rfl
  have hx8_4 : wr.cell? ⟨go8, (x5_1 : Int).toNat * 5 + 4, none⟩ = some (.int .i8 ((rd_T43 x0_2 x5_1).f3)) := hcc8 4 _ rfl
  have hf8_0 : wr.frozen? ⟨go8, (x5_1 : Int).toNat * 5, none⟩ = false := hfr8 0
  have hf8_1 : wr.frozen? ⟨go8, (x5_1 : Int).toNat * 5 + 1, none⟩ = false := hfr8 1
  have hf8_2 : wr.frozen? ⟨go8, (x5_1 : Int).toNat * 5 + 2, none⟩ = false := hfr8 2
  have hf8_3 : wr.frozen? ⟨go8, (x5_1 : Int).toNat * 5 + 3, none⟩ = false := hfr8 3
  have hf8_4 : wr.frozen? ⟨go8, (x5_1 : Int).toNat * 5 + 4, none⟩ = false := hfr8 4
  clear hcl8 hcc8 hfr8 hM8
  replace p8 := eq_true p8
  replace q8 := eq_true q8
  have HX15 := Aside0.mk (show Kd.R k43 43 wr w0.heap.size (fun k_ => (P0_ k_ ∨ w.heap.size ≤ k_)) (.slice (some ⟨go8, 0, none⟩) x0_2.length co4) x0_2 from (ze HO_0).out)
  obtain ⟨ce15, hcl15, hM15, hcc15, hfr15⟩ := Kd.R_elem HX15.out z43 (x5_1 : Int) (of_decide_eq_true zA) (zlt (x5_1 : Int) (x0_2.length : Int) (Kd.R_reads' HO_0.out).1)
  obtain rfl := k43_openM hM15
  have HP15 := Kd.R_seg HX15.out (x5_1 : Int) (of_decide_eq_true zA) (zlt (x5_1 : Int) (x0_2.length : Int) (Kd.R_reads' HO_0.out).1) (seg := [.int .i8 (IntKind.i8.wrap (x1_2))]) (j := 1) hcl15 hcc15 (show 2 ≤ 5 from by decide) (x' := (⟨(⟨(rd_T43 x0_2 x5_1).f0.f0, IntKind.i8.wrap (x1_2)⟩ : S41), (rd_T43 x0_2 x5_1).f1, (rd_T43 x0_2 x5_1).f2, (rd_T43 x0_2 x5_1).f3⟩ : S43)) (k43_mkM _ _ _ (⟨(⟨(rd_T43 x0_2 x5_1).f0.f0, IntKind.i8.wrap (x1_2)⟩ : S41), (rd_T43 x0_2 x5_1).f1, (rd_T43 x0_2 x5_1).f2, (rd_T43 x0_2 x5_1).f3⟩ : S43) ) (fun _ hk => hk)
  have hx15_1 := hcc15 1 _ rfl
  (try simp only [show (k43).sz = 5 from rfl, Nat.mul_one, Nat.add_zero] at hx15_1)
  have hf15_1 := hfr15 1
  (try simp only [show (k43).sz = 5 from rfl, Nat.mul_one, Nat.add_zero] at hf15_1)
  clear hcl15 hcc15 hfr15 hM15
  go_wp2_with (first | ((with_reducible refine gate_store (t := 22) (p := 24) rfl ?_); refine store_event (t := 22) (p := 24) (v := ?vo_w16) (w1 := (wr.setCell ⟨go8, (x5_1 : Int).toNat * 5 + 1, none⟩ (.int .i8 (IntKind.i8.wrap (x1_2))))) ?hg ?ho ?hn ?hr ?_; (case ho => rfl); (case hg => rfl); (case hn => rfl); (case hr => exact zgs); intro w16 hw; have hg : wr.grownBy w16 (some go8) := (by rw [hw]; exact HP15.2); have hp_ : Kd.R k43 43 w16 w0.heap.size (fun k_ => (P0_ k_ ∨ w.heap.size ≤ k_)) (.slice (some ⟨go8, 0, none⟩) x0_2.length co4) y204 := (by rw [hw, Ny204.out]; exact HP15.1); clear HP15; have n_ : _ ∧ _ ∧ _ := ⟨Aside0.mk (hp_), Aside0.mk ((by rw [hw]; exact below_set (HB.out) GB8.out : Below w0.heap.size w0 w16)), Aside0.mk (Kept.of_grown (S := (fun k_ => P0_ k_)) hg (by repeat (first | (with_reducible first | exact HK.out | apply Kept.alloc | apply Kept.drewN | apply Kept.drew) | exact HK.out)) (fun k_ e_ => (HO_0.out.1 k_ e_)))⟩; clear HO_0 HB HK; obtain ⟨HO_0, HB, HK⟩ := n_; clear hg hw hp_))
  (try simp only [← hl0_2])
  go_roundg k2
  case measure => have := HK1.out; have := HK2.out; omega
  case rel => exact ⟨(y204), (wrap64 (x1_2 + 1)), (wrap64 (x6_2 + 1)), zi, zi, H', ⟨by have := HK1.out; have := HK2.out; omega⟩, ⟨by (try simp only [hl0_2]); (with_reducible repeat (first | apply Kd.R_alloc | apply Kd.R_drewN | apply Kd.R_drew)); exact HO_0.out⟩, ⟨by repeat (first | (with_reducible first | exact HK.out | apply Kept.alloc | apply Kept.drewN | apply Kept.drew) | exact HK.out)⟩, zl HB⟩
 rw [if_neg c5] at H
 have c5b0 : decide (x6_2 < 2) = false := decide_eq_false c5
 clear c5
 by_cases c17 : 0 ≤ x5_1
 rotate_left
 ·rw [if_neg c17] at H
  exact absurd H (by simp)
 rw [if_pos c17] at H
 have c17b0 : decide (0 ≤ x5_1) = true := decide_eq_true c17
 clear c17
 by_cases c18 : x5_1 < (x0_2.length : Int)
 rotate_left
 ·rw [if_neg c18] at H
  exact absurd H (by simp)
 rw [if_pos c18] at H
 have c18b0 : decide (x5_1 < (x0_2.length : Int)) = true := decide_eq_true c18
 clear c18
 obtain ⟨y205, hy205⟩ : ∃ y_ : List (S43), y_ = (x0_2.set (x5_1 : Int).toNat (⟨(⟨(rd_T43 x0_2 x5_1).f0.f0, (rd_T43 x0_2 x5_1).f0.f1⟩ : S41), IntKind.i8.wrap (x1_2), (rd_T43 x0_2 x5_1).f2, (rd_T43 x0_2 x5_1).f3⟩ : S43)) := ⟨_, rfl⟩
 replace H : ((some (y205.set (x5_1 : Int).toNat (⟨(⟨(rd_T43 y205 x5_1).f0.f0, (rd_T43 y205 x5_1).f0.f1⟩ : S41), (rd_T43 y205 x5_1).f1, IntKind.i8.wrap (wrap64 (x1_2 + 1)), (rd_T43 y205 x5_1).f3⟩ : S43) : List (S43))).bind fun y206 => (laws_markPieceS.l0 k2 (y206.set (x5_1 : Int).toNat (⟨(⟨(rd_T43 y206 x5_1).f0.f0, (rd_T43 y206 x5_1).f0.f1⟩ : S41), (rd_T43 y206 x5_1).f1, (rd_T43 y206 x5_1).f2, IntKind.i8.wrap (wrap64 ((wrap64 (x1_2 + 1)) + 1))⟩ : S43)) (wrap64 ((wrap64 ((wrap64 (x1_2 + 1)) + 1)) + 1)) (wrap64 (x5_1 + 1)))) = some (r1, r2) := by first | (rw [hy205]; with_reducible exact H) | (have H2_ := (Option.bind_some _ _).symm.trans H; rw [hy205]; with_reducible exact H2_) | (have H2_ := (Option.bind_some _ _).symm.trans H; with_reducible exact H2_) | with_reducible exact H | (rw [hy205]; exact H) | exact H
 have Ny205 := Aside0.mk hy205
 clear hy205
 obtain ⟨y206, hy206⟩ : ∃ y_ : List (S43), y_ = (y205.set (x5_1 : Int).toNat (⟨(⟨(rd_T43 y205 x5_1).f0.f0, (rd_T43 y205 x5_1).f0.f1⟩ : S41), (rd_T43 y205 x5_1).f1, IntKind.i8.wrap (wrap64 (x1_2 + 1)), (rd_T43 y205 x5_1).f3⟩ : S43)) := ⟨_, rfl⟩
 replace H : (laws_markPieceS.l0 k2 (y206.set (x5_1 : Int).toNat (⟨(⟨(rd_T43 y206 x5_1).f0.f0, (rd_T43 y206 x5_1).f0.f1⟩ : S41), (rd_T43 y206 x5_1).f1, (rd_T43 y206 x5_1).f2, IntKind.i8.wrap (wrap64 ((wrap64 (x1_2 + 1)) + 1))⟩ : S43)) (wrap64 ((wrap64 ((wrap64 (x1_2 + 1)) + 1)) + 1)) (wrap64 (x5_1 + 1))) = some (r1, r2) := by first | (rw [hy206]; with_reducible exact H) | (have H2_ := (Option.bind_some _ _).symm.trans H; rw [hy206]; with_reducible exact H2_) | (have H2_ := (Option.bind_some _ _).symm.trans H; with_reducible exact H2_) | with_reducible exact H | (rw [hy206]; exact H) | exact H
 have Ny206 := Aside0.mk hy206
 clear hy206
 obtain ⟨y207, hy207⟩ : ∃ y_ : List (S43), y_ = (y206.set (x5_1 : Int).toNat (⟨(⟨(rd_T43 y206 x5_1).f0.f0, (rd_T43 y206 x5_1).f0.f1⟩ : S41), (rd_T43 y206 x5_1).f1, (rd_T43 y206 x5_1).f2, IntKind.i8.wrap (wrap64 ((wrap64 (x1_2 + 1)) + 1))⟩ : S43)) := ⟨_, rfl⟩
 replace H : (laws_markPieceS.l0 k2 y207 (wrap64 ((wrap64 ((wrap64 (x1_2 + 1)) + 1)) + 1)) (wrap64 (x5_1 + 1))) = some (r1, r2) := by first | (rw [hy207]; with_reducible exact H) | (have H2_ := (Option.bind_some _ _).symm.trans H; rw [hy207]; with_reducible exact H2_) | (have H2_ := (Option.bind_some _ _).symm.trans H; with_reducible exact H2_) | with_reducible exact H | (rw [hy207]; exact H) | exact H
 have Ny207 := Aside0.mk hy207
 clear hy207
 have H' := Aside0.mk H
 clear H
 have p19 : 0 ≤ (x5_1 : Int) := of_decide_eq_true zA
 have q19 : (x5_1 : Int) < ((x0_2.length : Int) : Int) := of_decide_eq_true zA
 obtain ⟨go19, co19, eo19, gb19, gl19, cl19, HG19⟩ := Kd.R_form HO_0.out (by omega)
 (first | cases eo19 | (injection eo19 with ea_ en_ ec_; (first | subst ea_ | (injection ea_ with ea_; subst ea_)); subst ec_; clear en_))
 have GB19 := Aside0.mk gb19
 have GG19 := Aside0.mk HG19
 clear gb19 gl19 HG19
 have HMgo19 := Aside0.mk (show (P0_ go19 ∨ w.heap.size ≤ go19) from (HO_0.out.1 _ rfl))
 obtain ⟨ce19, hcl19, hM19, hcc19, hfr19⟩ := Kd.R_elem HO_0.out z43 (x5_1 : Int) p19 q19
 obtain rfl := k43_openM hM19
 have hx19_0 : wr.cell? ⟨go19, (x5_1 : Int).toNat * 5, none⟩ = some (.int .i8 ((rd_T43 x0_2 x5_1).f0.f0)) := hcc19 0 _ rfl
 have hx19_1 : wr.cell? ⟨go19, (x5_1 : Int).toNat * 5 + 1, none⟩ = some (.int .i8 ((rd_T43 x0_2 x5_1).f0.f1)) := hcc19 1 _ rfl
 have hx19_2 : wr.cell? ⟨go19, (x5_1 : Int).toNat * 5 + 2, none⟩ = some (.int .i8 ((rd_T43 x0_2 x5_1).f1)) := hcc19 2 _ rfl
 have hx19_3 : wr.cell? ⟨go19, (x5_1 : Int).toNat * 5 + 3, none⟩ = some (.int .i8 ((rd_T43 x0_2 x5_1).f2)) := hcc19 3 _ rfl
 have hx19_4 : wr.cell? ⟨go19, (x5_1 : Int).toNat * 5 + 4, none⟩ = some (.int .i8 ((rd_T43 x0_2 x5_1).f3)) := hcc19 4 _ rfl
 have hf19_0 : wr.frozen? ⟨go19, (x5_1 : Int).toNat * 5, none⟩ = false := hfr19 0
 have hf19_1 : wr.frozen? ⟨go19, (x5_1 : Int).toNat * 5 + 1, none⟩ = false := hfr19 1
 have hf19_2 : wr.frozen? ⟨go19, (x5_1 : Int).toNat * 5 + 2, none⟩ = false := hfr19 2
 have hf19_3 : wr.frozen? ⟨go19, (x5_1 : Int).toNat * 5 + 3, none⟩ = false := hfr19 3
 have hf19_4 : wr.frozen? ⟨go19, (x5_1 : Int).toNat * 5 + 4, none⟩ = false := hfr19 4
 clear hcl19 hcc19 hfr19 hM19
 replace p19 := eq_true p19
 replace q19 := eq_true q19
 have HX22 := Aside0.mk (show Kd.R k43 43 wr w0.heap.size (fun k_ => (P0_ k_ ∨ w.heap.size ≤ k_)) (.slice (some ⟨go19, 0, none⟩) x0_2.length co4) x0_2 from (ze HO_0).out)
 obtain ⟨ce22, hcl22, hM22, hcc22, hfr22⟩ := Kd.R_elem HX22.out z43 (x5_1 : Int) (of_decide_eq_true zA) (zlt (x5_1 : Int) (x0_2.length : Int) (Kd.R_reads' HO_0.out).1)
 obtain rfl := k43_openM hM22
 have HP22 := Kd.R_seg HX22.out (x5_1 : Int) (of_decide_eq_true zA) (zlt (x5_1 : Int) (x0_2.length : Int) (Kd.R_reads' HO_0.out).1) (seg := [.int .i8 (IntKind.i8.wrap (x1_2))]) (j := 2) hcl22 hcc22 (show 3 ≤ 5 from by decide) (x' := (⟨(⟨(rd_T43 x0_2 x5_1).f0.f0, (rd_T43 x0_2 x5_1).f0.f1⟩ : S41), IntKind.i8.wrap (x1_2), (rd_T43 x0_2 x5_1).f2, (rd_T43 x0_2 x5_1).f3⟩ : S43)) (k43_mkM _ _ _ (⟨(⟨(rd_T43 x0_2 x5_1).f0.f0, (rd_T43 x0_2 x5_1).f0.f1⟩ : S41), IntKind.i8.wrap (x1_2), (rd_T43 x0_2 x5_1).f2, (rd_T43 x0_2 x5_1).f3⟩ : S43) ) (fun _ hk => hk)
 have hx22_2 := hcc22 2 _ rfl
 (try simp only [show (k43).sz = 5 from rfl, Nat.mul_one, Nat.add_zero] at hx22_2)
 have hf22_2 := hfr22 2
 (try simp only [show (k43).sz = 5 from rfl, Nat.mul_one, Nat.add_zero] at hf22_2)
 clear hcl22 hcc22 hfr22 hM22
 go_wp2_with (first | ((with_reducible refine gate_store (t := 22) (p := 32) rfl ?_); refine store_event (t := 22) (p := 32) (v := ?vo_w23) (w1 := (wr.setCell ⟨go19, (x5_1 : Int).toNat * 5 + 2, none⟩ (.int .i8 (IntKind.i8.wrap (x1_2))))) ?hg ?ho ?hn ?hr ?_; (case ho => rfl); (case hg => rfl); (case hn => rfl); (case hr => exact zgs); intro w23 hw; have hg : wr.grownBy w23 (some go19) := (by rw [hw]; exact HP22.2); have hp_ : Kd.R k43 43 w23 w0.heap.size (fun k_ => (P0_ k_ ∨ w.heap.size ≤ k_)) (.slice (some ⟨go19, 0, none⟩) x0_2.length co4) y205 := (by rw [hw, Ny205.out]; exact HP22.1); clear HP22; have n_ : _ ∧ _ ∧ _ := ⟨Aside0.mk (hp_), Aside0.mk ((by rw [hw]; exact below_set (HB.out) GB19.out : Below w0.heap.size w0 w23)), Aside0.mk (Kept.of_grown (S := (fun k_ => P0_ k_)) hg (by repeat (first | (with_reducible first | exact HK.out | apply Kept.alloc | apply Kept.drewN | apply Kept.drew) | exact HK.out)) (fun k_ e_ => (HO_0.out.1 k_ e_)))⟩; clear HO_0 HB HK; obtain ⟨HO_0, HB, HK⟩ := n_; clear hg hw hp_; have p20 : 0 ≤ (x5_1 : Int) := of_decide_eq_true zA; have q20 : (x5_1 : Int) < ((x0_2.length : Int) : Int) := of_decide_eq_true zA; obtain ⟨ce20, hcl20, hM20, hcc20, hfr20⟩ := Kd.R_elem HO_0.out z43 (x5_1 : Int) p20 q20; obtain rfl := k43_openM hM20; have hx20_0 : w23.cell? ⟨go19, (x5_1 : Int).toNat * 5, none⟩ = some (.int .i8 ((rd_T43 y205 x5_1).f0.f0)) := hcc20 0 _ rfl; have hx20_1 : w23.cell? ⟨go19, (x5_1 : Int).toNat * 5 + 1, none⟩ = some (.int .i8 ((rd_T43 y205 x5_1).f0.f1)) := hcc20 1 _ rfl; have hx20_2 : w23.cell? ⟨go19, (x5_1 : Int).toNat * 5 + 2, none⟩ = some (.int .i8 ((rd_T43 y205 x5_1).f1)) := hcc20 2 _ rfl; have hx20_3 : w23.cell? ⟨go19, (x5_1 : Int).toNat * 5 + 3, none⟩ = some (.int .i8 ((rd_T43 y205 x5_1).f2)) := hcc20 3 _ rfl; have hx20_4 : w23.cell? ⟨go19, (x5_1 : Int).toNat * 5 + 4, none⟩ = some (.int .i8 ((rd_T43 y205 x5_1).f3)) := hcc20 4 _ rfl; have hf20_0 : w23.frozen? ⟨go19, (x5_1 : Int).toNat * 5, none⟩ = false := hfr20 0; have hf20_1 : w23.frozen? ⟨go19, (x5_1 : Int).toNat * 5 + 1, none⟩ = false := hfr20 1; have hf20_2 : w23.frozen? ⟨go19, (x5_1 : Int).toNat * 5 + 2, none⟩ = false := hfr20 2; have hf20_3 : w23.frozen? ⟨go19, (x5_1 : Int).toNat * 5 + 3, none⟩ = false := hfr20 3; have hf20_4 : w23.frozen? ⟨go19, (x5_1 : Int).toNat * 5 + 4, none⟩ = false := hfr20 4; clear hcl20 hcc20 hfr20 hM20; replace p20 := eq_true p20; replace q20 := eq_true q20; have HX24 := Aside0.mk (show Kd.R k43 43 w23 w0.heap.size (fun k_ => (P0_ k_ ∨ w.heap.size ≤ k_)) (.slice (some ⟨go19, 0, none⟩) x0_2.length co4) y205 from (ze HO_0).out); obtain ⟨ce24, hcl24, hM24, hcc24, hfr24⟩ := Kd.R_elem HX24.out z43 (x5_1 : Int) (of_decide_eq_true zA) (zlt (x5_1 : Int) (x0_2.length : Int) (Kd.R_reads' HO_0.out).1); obtain rfl := k43_openM hM24; have HP24 := Kd.R_seg HX24.out (x5_1 : Int) (of_decide_eq_true zA) (zlt (x5_1 : Int) (x0_2.length : Int) (Kd.R_reads' HO_0.out).1) (seg := [.int .i8 (IntKind.i8.wrap (wrap64 (x1_2 + 1)))]) (j := 3) hcl24 hcc24 (show 4 ≤ 5 from by decide) (x' := (⟨(⟨(rd_T43 y205 x5_1).f0.f0, (rd_T43 y205 x5_1).f0.f1⟩ : S41), (rd_T43 y205 x5_1).f1, IntKind.i8.wrap (wrap64 (x1_2 + 1)), (rd_T43 y205 x5_1).f3⟩ : S43)) (k43_mkM _ _ _ (⟨(⟨(rd_T43 y205 x5_1).f0.f0, (rd_T43 y205 x5_1).f0.f1⟩ : S41), (rd_T43 y205 x5_1).f1, IntKind.i8.wrap (wrap64 (x1_2 + 1)), (rd_T43 y205 x5_1).f3⟩ : S43) ) (fun _ hk => hk); have hx24_3 := hcc24 3 _ rfl; (try simp only [show (k43).sz = 5 from rfl, Nat.mul_one, Nat.add_zero] at hx24_3); have hf24_3 := hfr24 3; (try simp only [show (k43).sz = 5 from rfl, Nat.mul_one, Nat.add_zero] at hf24_3); clear hcl24 hcc24 hfr24 hM24) | ((with_reducible refine gate_store (t := 22) (p := 40) rfl ?_); refine store_event (t := 22) (p := 40) (v := ?vo_w25) (w1 := (w23.setCell ⟨go19, (x5_1 : Int).toNat * 5 + 3, none⟩ (.int .i8 (IntKind.i8.wrap (wrap64 (x1_2 + 1)))))) ?hg ?ho ?hn ?hr ?_; (case ho => rfl); (case hg => rfl); (case hn => rfl); (case hr => exact zgs); intro w25 hw; have hg : w23.grownBy w25 (some go19) := (by rw [hw]; exact HP24.2); have hp_ : Kd.R k43 43 w25 w0.heap.size (fun k_ => (P0_ k_ ∨ w.heap.size ≤ k_)) (.slice (some ⟨go19, 0, none⟩) x0_2.length co4) y206 := (by rw [hw, Ny206.out]; exact HP24.1); clear HP24; have n_ : _ ∧ _ ∧ _ := ⟨Aside0.mk (hp_), Aside0.mk ((by rw [hw]; exact below_set (HB.out) GB19.out : Below w0.heap.size w0 w25)), Aside0.mk (Kept.of_grown (S := (fun k_ => P0_ k_)) hg (by repeat (first | (with_reducible first | exact HK.out | apply Kept.alloc | apply Kept.drewN | apply Kept.drew) | exact HK.out)) (fun k_ e_ => (HO_0.out.1 k_ e_)))⟩; clear HO_0 HB HK; obtain ⟨HO_0, HB, HK⟩ := n_; clear hg hw hp_; have p21 : 0 ≤ (x5_1 : Int) := of_decide_eq_true zA; have q21 : (x5_1 : Int) < ((x0_2.length : Int) : Int) := of_decide_eq_true zA; obtain ⟨ce21, hcl21, hM21, hcc21, hfr21⟩ := Kd.R_elem HO_0.out z43 (x5_1 : Int) p21 q21; obtain rfl := k43_openM hM21; have hx21_0 : w25.cell? ⟨go19, (x5_1 : Int).toNat * 5, none⟩ = some (.int .i8 ((rd_T43 y206 x5_1).f0.f0)) := hcc21 0 _ rfl; have hx21_1 : w25.cell? ⟨go19, (x5_1 : Int).toNat * 5 + 1, none⟩ = some (.int .i8 ((rd_T43 y206 x5_1).f0.f1)) := hcc21 1 _ rfl; have hx21_2 : w25.cell? ⟨go19, (x5_1 : Int).toNat * 5 + 2, none⟩ = some (.int .i8 ((rd_T43 y206 x5_1).f1)) := hcc21 2 _ rfl; have hx21_3 : w25.cell? ⟨go19, (x5_1 : Int).toNat * 5 + 3, none⟩ = some (.int .i8 ((rd_T43 y206 x5_1).f2)) := hcc21 3 _ rfl; have hx21_4 : w25.cell? ⟨go19, (x5_1 : Int).toNat * 5 + 4, none⟩ = some (.int .i8 ((rd_T43 y206 x5_1).f3)) := hcc21 4 _ rfl; have hf21_0 : w25.frozen? ⟨go19, (x5_1 : Int).toNat * 5, none⟩ = false := hfr21 0; have hf21_1 : w25.frozen? ⟨go19, (x5_1 : Int).toNat * 5 + 1, none⟩ = false := hfr21 1; have hf21_2 : w25.frozen? ⟨go19, (x5_1 : Int).toNat * 5 + 2, none⟩ = false := hfr21 2; have hf21_3 : w25.frozen? ⟨go19, (x5_1 : Int).toNat * 5 + 3, none⟩ = false := hfr21 3; have hf21_4 : w25.frozen? ⟨go19, (x5_1 : Int).toNat * 5 + 4, none⟩ = false := hfr21 4; clear hcl21 hcc21 hfr21 hM21; replace p21 := eq_true p21; replace q21 := eq_true q21; have HX26 := Aside0.mk (show Kd.R k43 43 w25 w0.heap.size (fun k_ => (P0_ k_ ∨ w.heap.size ≤ k_)) (.slice (some ⟨go19, 0, none⟩) x0_2.length co4) y206 from (ze HO_0).out); obtain ⟨ce26, hcl26, hM26, hcc26, hfr26⟩ := Kd.R_elem HX26.out z43 (x5_1 : Int) (of_decide_eq_true zA) (zlt (x5_1 : Int) (x0_2.length : Int) (Kd.R_reads' HO_0.out).1); obtain rfl := k43_openM hM26; have HP26 := Kd.R_seg HX26.out (x5_1 : Int) (of_decide_eq_true zA) (zlt (x5_1 : Int) (x0_2.length : Int) (Kd.R_reads' HO_0.out).1) (seg := [.int .i8 (IntKind.i8.wrap (wrap64 ((wrap64 (x1_2 + 1)) + 1)))]) (j := 4) hcl26 hcc26 (show 5 ≤ 5 from by decide) (x' := (⟨(⟨(rd_T43 y206 x5_1).f0.f0, (rd_T43 y206 x5_1).f0.f1⟩ : S41), (rd_T43 y206 x5_1).f1, (rd_T43 y206 x5_1).f2, IntKind.i8.wrap (wrap64 ((wrap64 (x1_2 + 1)) + 1))⟩ : S43)) (k43_mkM _ _ _ (⟨(⟨(rd_T43 y206 x5_1).f0.f0, (rd_T43 y206 x5_1).f0.f1⟩ : S41), (rd_T43 y206 x5_1).f1, (rd_T43 y206 x5_1).f2, IntKind.i8.wrap (wrap64 ((wrap64 (x1_2 + 1)) + 1))⟩ : S43) ) (fun _ hk => hk); have hx26_4 := hcc26 4 _ rfl; (try simp only [show (k43).sz = 5 from rfl, Nat.mul_one, Nat.add_zero] at hx26_4); have hf26_4 := hfr26 4; (try simp only [show (k43).sz = 5 from rfl, Nat.mul_one, Nat.add_zero] at hf26_4); clear hcl26 hcc26 hfr26 hM26) | ((with_reducible refine gate_store (t := 22) (p := 48) rfl ?_); refine store_event (t := 22) (p := 48) (v := ?vo_w27) (w1 := (w25.setCell ⟨go19, (x5_1 : Int).toNat * 5 + 4, none⟩ (.int .i8 (IntKind.i8.wrap (wrap64 ((wrap64 (x1_2 + 1)) + 1)))))) ?hg ?ho ?hn ?hr ?_; (case ho => rfl); (case hg => rfl); (case hn => rfl); (case hr => exact zgs); intro w27 hw; have hg : w25.grownBy w27 (some go19) := (by rw [hw]; exact HP26.2); have hp_ : Kd.R k43 43 w27 w0.heap.size (fun k_ => (P0_ k_ ∨ w.heap.size ≤ k_)) (.slice (some ⟨go19, 0, none⟩) x0_2.length co4) y207 := (by rw [hw, Ny207.out]; exact HP26.1); clear HP26; have n_ : _ ∧ _ ∧ _ := ⟨Aside0.mk (hp_), Aside0.mk ((by rw [hw]; exact below_set (HB.out) GB19.out : Below w0.heap.size w0 w27)), Aside0.mk (Kept.of_grown (S := (fun k_ => P0_ k_)) hg (by repeat (first | (with_reducible first | exact HK.out | apply Kept.alloc | apply Kept.drewN | apply Kept.drew) | exact HK.out)) (fun k_ e_ => (HO_0.out.1 k_ e_)))⟩; clear HO_0 HB HK; obtain ⟨HO_0, HB, HK⟩ := n_; clear hg hw hp_))
 (try simp only [← hl0_2])
 go_roundg k2
 case measure => have := HK1.out; have := HK2.out; omega
 case rel => exact ⟨(y207), (wrap64 ((wrap64 ((wrap64 (x1_2 + 1)) + 1)) + 1)), (wrap64 (x5_1 + 1)), zi, zi, H', ⟨by have := HK1.out; have := HK2.out; omega⟩, ⟨by (try simp only [hl0_2]); (with_reducible repeat (first | apply Kd.R_alloc | apply Kd.R_drewN | apply Kd.R_drew)); exact HO_0.out⟩, ⟨by repeat (first | (with_reducible first | exact HK.out | apply Kept.alloc | apply Kept.drewN | apply Kept.drew) | exact HK.out)⟩, zl HB⟩
def laws_markBoard.f (k : Nat) (a0_0 : Int) (a0_1 : Int) (l0_2 : List (S43)) (a1 : Int) : Option (Int × (List (S43))) := (laws_markPieceS.f k l0_2 a1).bind fun bt209 => (some (bt209.1, bt209.2))
theorem laws_markBoard.mono : ∀ a0 a1 a2 a3 k, LeO (laws_markBoard.f k a0 a1 a2 a3) (laws_markBoard.f (k + 1) a0 a1 a2 a3) := by
 intro a0 a1 a2 a3 k
 unfold laws_markBoard.f
 repeat' first | (with_reducible first | apply laws_markPieceS.mono | exact LeO.refl _ | exact LeO.none _ | refine LeO.ite ?_ ?_ | refine LeO.bind ?_ (fun _ => ?_)) | apply laws_markPieceS.mono | exact LeO.none _ | refine LeO.ite ?_ ?_ | refine LeO.bind ?_ (fun _ => ?_)
theorem laws_markBoard.calls (k : Nat) (a0_0 : Int) (a0_1 : Int) (P0_2_ : Nat → Prop) (u9000_ : Value) (l0_2 : List (S43)) (a1 : Int) (r1 : Int) (r2 : List (S43)) (w0 w : World) (hB : Below w0.heap.size w0 w) (ho0_2 : Kd.R k43 43 w w0.heap.size P0_2_ u9000_ l0_2) (h : laws_markBoard.f k a0_0 a0_1 l0_2 a1 = some (r1, r2)) :
    Calls Try.prog 9 #[.agg #[.int .i8 a0_0, .int .i8 a0_1, u9000_], .int .i64 a1] w fun e w' => e = .returned (.int .i64 r1) ∧ Kd.R k43 43 w' w0.heap.size (fun k_ => (P0_2_ k_ ∨ w.heap.size ≤ k_)) u9000_ r2 ∧ Below w0.heap.size w0 w' ∧ Kept w w' (fun k_ => P0_2_ k_) := by
 have hu29 := Try.underlying29
 have HO0_2 := Aside0.mk (show Kd.R k43 43 w w0.heap.size (fun k_ => (P0_2_ k_ ∨ w.heap.size ≤ k_)) u9000_ l0_2 from Kd.R_mono ho0_2 (fun k_ hk => (.inl hk)))
 have HK := Aside0.mk (Kept.refl w (fun k_ => P0_2_ k_))
 have HW0 := Aside0.mk hB.size
 have HB := Aside0.mk hB
 clear hB
 have H : ((laws_markPieceS.f k l0_2 a1).bind fun bt209 => (some (bt209.1, bt209.2))) = some (r1, r2) := h
 clear h
 replace H := zob H
 obtain ⟨⟨t209, t210⟩, A30, H⟩ := H
 replace H : (some (t209, t210)) = some (r1, r2) := H
 have A3 := Aside0.mk A30
 clear A30
 simp only [Option.some.injEq, Prod.mk.injEq] at H
 obtain ⟨rfl, rfl⟩ := H
 obtain ⟨Ao4, co4, eo4⟩ := Kd.R_slice HO0_2.out
 subst eo4
 go_enter Try.func9, Try.ntmps9
 go_wp2_with (first | ((with_reducible refine gate_dst (N := 2) rfl ?_); refine zbx 2 #[.int .i8 a0_0, .int .i8 a0_1, .slice Ao4 l0_2.length co4] 29 ?_; intro gb208 hg w5 hbox hb; have n_ : _ ∧ _ ∧ _ ∧ _ ∧ _ ∧ _ := ⟨zr HO0_2 hb, Aside0.mk (Kept.below (S := (fun k_ => P0_2_ k_)) (by repeat (first | (with_reducible first | exact HK.out | apply Kept.alloc | apply Kept.drewN | apply Kept.drew) | exact HK.out)) hb), zb HB hb, Aside0.mk (hbox), Aside0.mk ((by rw [hg]; exact (by first | exact HK.out.1 | exact (show Kept w _ (fun k_ => P0_2_ k_) from by repeat (first | (with_reducible first | exact HK.out | apply Kept.alloc | apply Kept.drewN | apply Kept.drew) | exact HK.out)).1) : w.heap.size ≤ gb208)), Aside0.mk ((by rw [hg]; exact (zz HB) : w0.heap.size ≤ gb208))⟩; clear HO0_2 HK HB; obtain ⟨HO0_2, HK, HB, BK208, GW208, GE208⟩ := n_; clear hb hbox hg; obtain ⟨z6_0, z6_1, z6_2, y6_0, y6_1, y6_2⟩ := zB3 BK208) | ((with_reducible refine gate_callee (f := 22) rfl ?_); refine goesL_ (some 8) rfl rfl Try.func22 (by kernel_rfl) rfl #[.slice Ao4 l0_2.length co4, .int .i64 a1] rfl zm ?_; (with_reducible refine (laws_markPieceS.calls k (fun k_ => some k_ = (.slice Ao4 l0_2.length co4 : Value).ownBlock) (.slice Ao4 l0_2.length co4) l0_2 a1 t209 t210 w0 _ ?side1 ?side2 A3.out).mono ?_); (case side1 => exact zbo); (case side2 => exact Kd.R_tight rfl HO0_2.out); rintro e w7 ⟨rfl, hy0, hb, hkp⟩; refine ⟨_, rfl, ?_⟩; have n_ : _ ∧ _ ∧ _ ∧ _ := ⟨Aside0.mk (Kd.R_reok rfl hy0 (fun k_ e_ => HO0_2.out.1 k_ e_)), zkr BK208 hkp (fun hs_ => (fun e_ => (Kd.R_ne HO0_2.out BK208.out (by decide)) e_) hs_), Aside0.mk (Kept.then_ (S := (fun k_ => P0_2_ k_)) (by repeat (first | (with_reducible first | exact HK.out | apply Kept.alloc | apply Kept.drewN | apply Kept.drew | refine Kept.setCell ?_ (.inr GW208.out) _) | exact HK.out)) hkp (fun k_ hs_ => (fun e_ => (HO0_2.out.1 k_ e_.symm)) hs_)), Aside0.mk (hb)⟩; clear HO0_2 BK208 HK HB; obtain ⟨HO0_2, BK208, HK, HB⟩ := n_; (try clear hb); (try clear hkp); (try clear hy0)))
 go_ret
 exact ⟨zv, by (with_reducible repeat (first | apply Kd.R_alloc | apply Kd.R_drewN | apply Kd.R_drew)); exact HO0_2.out, zbo, by repeat (first | (with_reducible first | exact HK.out | apply Kept.alloc | apply Kept.drewN | apply Kept.drew | refine Kept.setCell ?_ (.inr GW208.out) _) | exact HK.out)⟩
end Go.Proofs.Ytljjmgokebmldaa.PFnExactSortBoard
