-- WRITTEN by xprint.py, a program of this session's. Not trusted: Lean checks it.
-- packed by pack.py
import Derived.Test.YtffnfpnajkgnaaaPFnExactMoveMachinex0
import Derived.Test.YtffnfpnajkgnaaaPFnExactMoveMachinex4
import Derived.Test.YtffnfpnajkgnaaaTFnExactMoveMachinea
namespace Go.Proofs.Ytffnfpnajkgnaaa.PFnExactMoveMachine
open Go.RowKit Go.Proofs.YtffnfpnajkgnaaaW.PrintWords Go.Proofs.YtffnfpnajkgnaaaW.PrintLast Go.Proofs.YtffnfpnajkgnaaaW.PrintMore Go.Proofs.YtffnfpnajkgnaaaX
attribute [local go_sem] max2_int min2_int max_two min_two max_three min_three max_four min_four   -- for this text's walks alone
set_option maxHeartbeats 8000000
set_option maxRecDepth 100000
set_option linter.unusedVariables false
set_option linter.unusedSimpArgs false

def laws_eqPortS.l0 : Nat → List (S116) → List (S116) → Int → Option (Bool)
  | 0, _, _, _ => none
  | k + 1, x0, x1, x5 => if x5 < (x0.length : Int) then (if 0 ≤ x5 then (if x5 < (x1.length : Int) then ((laws_eqPort.f k ((rd_T116 x0 x5).f0.f0) ((rd_T116 x0 x5).f0.f1) ((rd_T116 x0 x5).f1) ((rd_T116 x1 x5).f0.f0) ((rd_T116 x1 x5).f0.f1) ((rd_T116 x1 x5).f1)).bind fun t181 => (if t181 = true then (laws_eqPortS.l0 k x0 x1 (wrap64 (x5 + 1))) else (some false))) else (none)) else (none)) else (some true)
def laws_eqPortS.f (k : Nat) (l0 : List (S116)) (l1 : List (S116)) : Option (Bool) := if (l0.length : Int) = (l1.length : Int) then (laws_eqPortS.l0 k l0 l1 0) else (some false)
theorem laws_eqPortS.mono_l : ∀ k, (∀ y0 y1 y2, LeO (laws_eqPortS.l0 k y0 y1 y2) (laws_eqPortS.l0 (k + 1) y0 y1 y2))
  | 0 => fun _ _ _ r h => by simp [laws_eqPortS.l0] at h
  | k + 1 => by
    have ih0 := laws_eqPortS.mono_l k
    · intro y0 y1 y2
      unfold laws_eqPortS.l0
      repeat' first | (with_reducible first | apply ih0 | apply laws_eqPort.mono | exact LeO.refl _ | exact LeO.none _ | refine LeO.ite ?_ ?_ | refine LeO.bind ?_ (fun _ => ?_)) | apply ih0 | apply laws_eqPort.mono | exact LeO.none _ | refine LeO.ite ?_ ?_ | refine LeO.bind ?_ (fun _ => ?_)
theorem laws_eqPortS.mono : ∀ a0 a1 k, LeO (laws_eqPortS.f k a0 a1) (laws_eqPortS.f (k + 1) a0 a1) := by
 intro a0 a1 k
 have ih0 := laws_eqPortS.mono_l k
 unfold laws_eqPortS.f
 repeat' first | (with_reducible first | apply ih0 | apply laws_eqPort.mono | exact LeO.refl _ | exact LeO.none _ | refine LeO.ite ?_ ?_ | refine LeO.bind ?_ (fun _ => ?_)) | apply ih0 | apply laws_eqPort.mono | exact LeO.none _ | refine LeO.ite ?_ ?_ | refine LeO.bind ?_ (fun _ => ?_)
def laws_eqPortS.T6 : Bool × List (List Nat × List Nat) := (true, [([], []), ([], []), ([0, 1], [0, 1]), ([2], [2]), ([], []), ([], []), ([4, 5], [4, 5]), ([6], [6]), ([3, 7], [3, 7]), ([8], [8])])
def laws_eqPortS.B6 : List Nat := [0, 0, 3, 7, 0, 0, 48, 112, 255, 511]
theorem laws_eqPortS.tab6 : rtab .any (opsOf Try.f92 6) = laws_eqPortS.T6 := by kernel_rfl
theorem laws_eqPortS.bits6 : waitsOk laws_eqPortS.T6.2 laws_eqPortS.B6 = true := by kernel_rfl
theorem laws_eqPortS.calls (k : Nat) (A0 : Option Addr) (c0 : Nat) (l0 : List (S116)) (A1 : Option Addr) (c1 : Nat) (l1 : List (S116)) (r : Bool) (w : World) (hr0 : Kd.C k116 w A0 l0.length l0) (hc0 : l0.length ≤ c0) (hr1 : Kd.C k116 w A1 l1.length l1) (hc1 : l1.length ≤ c1) (h : laws_eqPortS.f k l0 l1 = some r) :
    Calls Try.prog 92 #[.slice A0 l0.length c0, .slice A1 l1.length c1] w fun e w' => e = .returned (.bool r) ∧ Below w.heap.size w w' := by
 have hu116 := Try.underlying116
 have HR0 := Aside0.mk hr0
 have HC0 := Aside0.mk hc0
 clear hr0 hc0
 have HR1 := Aside0.mk hr1
 have HC1 := Aside0.mk hc1
 clear hr1 hc1
 have HB := Aside0.mk (Below.refl w.heap.size w)
 have H : (if (l0.length : Int) = (l1.length : Int) then (laws_eqPortS.l0 k l0 l1 0) else (some false)) = some r := h
 clear h
 by_cases c3 : (l0.length : Int) = (l1.length : Int)
 rotate_left
 ·rw [if_neg c3] at H
  have c3b0 : ((l0.length : Int) == (l1.length : Int)) = false := beq_eq_false_iff_ne.mpr c3
  have c3b1 : ((l0.length : Int) != (l1.length : Int)) = true := bne_iff_ne.mpr c3
  have c3b2 : (l0.length == l1.length) = false := by first | simpa using c3 | (simp at c3 ⊢; omega)
  obtain rfl := Option.some.inj H
  go_enter Try.func92, Try.ntmps92
  go_wp2
  go_ret
  exact ⟨zv, zbo⟩
 rw [if_pos c3] at H
 have c3b0 : ((l0.length : Int) == (l1.length : Int)) = true := beq_iff_eq.mpr c3
 have c3b1 : ((l0.length : Int) != (l1.length : Int)) = false := bne_eq_false_iff_eq.mpr c3
 have c3b2 : (l0.length == l1.length) = true := by first | simpa using c3 | (simp at c3 ⊢; omega)
 clear c3
 have H' := Aside0.mk H
 clear H
 go_enter Try.func92, Try.ntmps92
 go_wp2
 go_loopg [5] k (fun kq v5 w' => ∃ (x5_1 : Int), v5 = .int .i64 x5_1 ∧ Aside0 (laws_eqPortS.l0 kq l0 l1 x5_1 = some r) ∧ Aside0 (kq ≤ k) ∧ Aside0 (Below w.heap.size w w'))
 case atStart => exact ⟨(0), zi, H', ⟨Nat.le_refl _⟩, zl HB⟩
 clear H'
 try clear c1
 try clear p2
 try clear c3
 try clear c3b0
 try clear c3b1
 try clear c3b2
 obtain ⟨x5_1, rfl, HA, HK1, HB⟩ := hrel
 cases gk with
 | zero => exact absurd HA.out (by simp [laws_eqPortS.l0])
 | succ k1 => ?_
 have H := HA.out
 clear HA
 simp only [laws_eqPortS.l0] at H
 by_cases c4 : x5_1 < (l0.length : Int)
 rotate_left
 ·rw [if_neg c4] at H
  have c4b0 : decide (x5_1 < (l0.length : Int)) = false := decide_eq_false c4
  clear c4
  obtain rfl := Option.some.inj H
  go_wp2
  go_ret
  exact ⟨zv, zbo⟩
 rw [if_pos c4] at H
 have c4b0 : decide (x5_1 < (l0.length : Int)) = true := decide_eq_true c4
 clear c4
 by_cases c5 : 0 ≤ x5_1
 rotate_left
 ·rw [if_neg c5] at H
  exact absurd H (by simp)
 rw [if_pos c5] at H
 have c5b0 : decide (0 ≤ x5_1) = true := decide_eq_true c5
 clear c5
 by_cases c6 : x5_1 < (l1.length : Int)
 rotate_left
 ·rw [if_neg c6] at H
  exact absurd H (by simp)
 rw [if_pos c6] at H
 have c6b0 : decide (x5_1 < (l1.length : Int)) = true := decide_eq_true c6
 clear c6
 replace H := zob H
 obtain ⟨t181, A70, H⟩ := H
 replace H : (if t181 = true then (laws_eqPortS.l0 k1 l0 l1 (wrap64 (x5_1 + 1))) else (some false)) = some r := H
 have A7 := Aside0.mk A70
 clear A70
 by_cases c8 : t181 = true
 ·subst c8
  have H1 : (laws_eqPortS.l0 k1 l0 l1 (wrap64 (x5_1 + 1))) = some r := by rw [if_pos rfl] at H; exact H
  clear H
  have H := H1
  clear H1
  have H' := Aside0.mk H
  clear H
  try go_wp2
  have n0_ := Aside0.mk (below_drew1 HB.out)
  clear HB
  have HB := n0_
  clear n0_
  have p179 : 0 ≤ (x5_1 : Int) := of_decide_eq_true zA
  have q179 : x5_1 < (l0.length : Int) := of_decide_eq_true zA
  obtain ⟨ad179, e179, hx179_0, hx179_1, hx179_2⟩ := at_T116 HR0.out x5_1 p179 q179
  have hw179_2 := hx179_2
  have hw179_1 := hx179_1
  have hw179_0 := hx179_0
  cases e179
  replace hx179_0 := zc HB hx179_0
  replace hx179_1 := zc HB hx179_1
  replace hx179_2 := zc HB hx179_2
  replace p179 := eq_true p179
  replace q179 := eq_true q179
  have p180 : 0 ≤ (x5_1 : Int) := of_decide_eq_true zA
  have q180 : x5_1 < (l1.length : Int) := of_decide_eq_true zA
  obtain ⟨ad180, e180, hx180_0, hx180_1, hx180_2⟩ := at_T116 HR1.out x5_1 p180 q180
  have hw180_2 := hx180_2
  have hw180_1 := hx180_1
  have hw180_0 := hx180_0
  cases e180
  replace hx180_0 := zc HB hx180_0
  replace hx180_1 := zc HB hx180_1
  replace hx180_2 := zc HB hx180_2
  replace p180 := eq_true p180
  replace q180 := eq_true q180
  refine start_ (n := 10) (S := fun w' => w'.cell? (ad179.add ((x5_1).toNat * 3)) = some (.int .i8 ((rd_T116 l0 x5_1).f0.f0)) ∧ w'.cell? ⟨(ad179.add ((x5_1).toNat * 3)).block, (ad179.add ((x5_1).toNat * 3)).off + 1, none⟩ = some (.int .i8 ((rd_T116 l0 x5_1).f0.f1)) ∧ w'.cell? ⟨(ad179.add ((x5_1).toNat * 3)).block, (ad179.add ((x5_1).toNat * 3)).off + 2, none⟩ = some (.int .i8 ((rd_T116 l0 x5_1).f1)) ∧ w'.cell? (ad180.add ((x5_1).toNat * 3)) = some (.int .i8 ((rd_T116 l1 x5_1).f0.f0)) ∧ w'.cell? ⟨(ad180.add ((x5_1).toNat * 3)).block, (ad180.add ((x5_1).toNat * 3)).off + 1, none⟩ = some (.int .i8 ((rd_T116 l1 x5_1).f0.f1)) ∧ w'.cell? ⟨(ad180.add ((x5_1).toNat * 3)).block, (ad180.add ((x5_1).toNat * 3)).off + 2, none⟩ = some (.int .i8 ((rd_T116 l1 x5_1).f1))) (ds := []) (zq 10 0) (by kernel_rfl) rfl rfl ⟨(zc HB hw179_0), (zc HB hw179_1), (zc HB hw179_2), (zc HB hw180_0), (zc HB hw180_1), (zc HB hw180_2)⟩ (fun hHeld => ?_); refine with_tabW laws_eqPortS.tab6 laws_eqPortS.bits6 (fun HT_ HW_ => ?_)
  generalize wr.drew = w9 at HB hx179_0 hx179_1 hx179_2 hx180_0 hx180_1 hx180_2 hHeld ⊢
  refine zpu 0 (some 17) (zq 10 1) HT_ ?_
  refine zpu 1 (some 18) (zq 10 3) HT_ ?_
  refine zpu 2 (some 19) (zq 10 7) HT_ ?_
  refine zpu 4 (some 21) (zq 10 23) HT_ ?_
  refine zpu 5 (some 22) (zq 10 55) HT_ ?_
  refine zpu 6 (some 23) (zq 10 119) HT_ ?_
  refine ztk 3 (some 20) (zq 10 127) HT_ HW_ rfl hHeld (Or.inl ⟨by rfl, by (rintro w' ⟨s0, s1, s2, s3, s4, s5⟩; go_simp; with_reducible rfl)⟩) ?_
  refine ztk 7 (some 24) (zq 10 255) HT_ HW_ rfl hHeld (Or.inl ⟨by rfl, by (rintro w' ⟨s0, s1, s2, s3, s4, s5⟩; go_simp; with_reducible rfl)⟩) ?_
  refine one_ (i := 8) (N := some 25) (zq 10 511) rfl rfl (one_of HT_.out (by kernel_rfl)) (by decide) (fun K hK => ?_)
  refine goes_ Try.func160 (by kernel_rfl) rfl #[.agg #[.int .i8 ((rd_T116 l0 x5_1).f0.f0), .int .i8 ((rd_T116 l0 x5_1).f0.f1), .int .i8 ((rd_T116 l0 x5_1).f1)], .agg #[.int .i8 ((rd_T116 l1 x5_1).f0.f0), .int .i8 ((rd_T116 l1 x5_1).f0.f1), .int .i8 ((rd_T116 l1 x5_1).f1)]] (by rfl) rfl rfl zm ?_
  with_reducible refine (laws_eqPort.calls k1 ((rd_T116 l0 x5_1).f0.f0) ((rd_T116 l0 x5_1).f0.f1) ((rd_T116 l0 x5_1).f1) ((rd_T116 l1 x5_1).f0.f0) ((rd_T116 l1 x5_1).f0.f1) ((rd_T116 l1 x5_1).f1) true _ A7.out).mono ?_
  rintro e w10 ⟨rfl, hb⟩
  refine ⟨_, rfl, ?_⟩
  have n0_ := zb HB hb
  clear HB
  have HB := n0_
  clear n0_
  (try clear hb)
  (try clear hb2)
  (try clear hk)
  (try clear hi)
  refine hK.out _ _ ⟨(zc HB hw179_0), (zc HB hw179_1), (zc HB hw179_2), (zc HB hw180_0), (zc HB hw180_1), (zc HB hw180_2)⟩ (fun hHeld => ?_)
  clear hK K
  refine norm_ (a' := ?_) ?_ ?_
  rotate_left
  ·show Act.put _ (some 25) _ = _
   exact zap
  refine zpu 9 (some 26) (zq 10 1023) HT_ ?_
  refine done_ (done_of HT_.out (by kernel_rfl)) ?_
  try go_wp2
  go_roundg k1
  case measure => have := HK1.out; omega
  case rel => exact ⟨(wrap64 (x5_1 + 1)), zi, H', ⟨by have := HK1.out; omega⟩, zl HB⟩
 replace c8 := Bool.eq_false_iff.mpr c8
 subst c8
 have H1 : (some false) = some r := by rw [if_neg (show ¬ (false = true) by decide)] at H; exact H
 clear H
 have H := H1
 clear H1
 obtain rfl := Option.some.inj H
 try go_wp2
 have n0_ := Aside0.mk (below_drew1 HB.out)
 clear HB
 have HB := n0_
 clear n0_
 have p179 : 0 ≤ (x5_1 : Int) := of_decide_eq_true zA
 have q179 : x5_1 < (l0.length : Int) := of_decide_eq_true zA
 obtain ⟨ad179, e179, hx179_0, hx179_1, hx179_2⟩ := at_T116 HR0.out x5_1 p179 q179
 have hw179_2 := hx179_2
 have hw179_1 := hx179_1
 have hw179_0 := hx179_0
 cases e179
 replace hx179_0 := zc HB hx179_0
 replace hx179_1 := zc HB hx179_1
 replace hx179_2 := zc HB hx179_2
 replace p179 := eq_true p179
 replace q179 := eq_true q179
 have p180 : 0 ≤ (x5_1 : Int) := of_decide_eq_true zA
 have q180 : x5_1 < (l1.length : Int) := of_decide_eq_true zA
 obtain ⟨ad180, e180, hx180_0, hx180_1, hx180_2⟩ := at_T116 HR1.out x5_1 p180 q180
 have hw180_2 := hx180_2
 have hw180_1 := hx180_1
 have hw180_0 := hx180_0
 cases e180
 replace hx180_0 := zc HB hx180_0
 replace hx180_1 := zc HB hx180_1
 replace hx180_2 := zc HB hx180_2
 replace p180 := eq_true p180
 replace q180 := eq_true q180
 refine start_ (n := 10) (S := fun w' => w'.cell? (ad179.add ((x5_1).toNat * 3)) = some (.int .i8 ((rd_T116 l0 x5_1).f0.f0)) ∧ w'.cell? ⟨(ad179.add ((x5_1).toNat * 3)).block, (ad179.add ((x5_1).toNat * 3)).off + 1, none⟩ = some (.int .i8 ((rd_T116 l0 x5_1).f0.f1)) ∧ w'.cell? ⟨(ad179.add ((x5_1).toNat * 3)).block, (ad179.add ((x5_1).toNat * 3)).off + 2, none⟩ = some (.int .i8 ((rd_T116 l0 x5_1).f1)) ∧ w'.cell? (ad180.add ((x5_1).toNat * 3)) = some (.int .i8 ((rd_T116 l1 x5_1).f0.f0)) ∧ w'.cell? ⟨(ad180.add ((x5_1).toNat * 3)).block, (ad180.add ((x5_1).toNat * 3)).off + 1, none⟩ = some (.int .i8 ((rd_T116 l1 x5_1).f0.f1)) ∧ w'.cell? ⟨(ad180.add ((x5_1).toNat * 3)).block, (ad180.add ((x5_1).toNat * 3)).off + 2, none⟩ = some (.int .i8 ((rd_T116 l1 x5_1).f1))) (ds := []) (zq 10 0) (by kernel_rfl) rfl rfl ⟨(zc HB hw179_0), (zc HB hw179_1), (zc HB hw179_2), (zc HB hw180_0), (zc HB hw180_1), (zc HB hw180_2)⟩ (fun hHeld => ?_); refine with_tabW laws_eqPortS.tab6 laws_eqPortS.bits6 (fun HT_ HW_ => ?_)
 generalize wr.drew = w11 at HB hx179_0 hx179_1 hx179_2 hx180_0 hx180_1 hx180_2 hHeld ⊢
 refine zpu 0 (some 17) (zq 10 1) HT_ ?_
 refine zpu 1 (some 18) (zq 10 3) HT_ ?_
 refine zpu 2 (some 19) (zq 10 7) HT_ ?_
 refine zpu 4 (some 21) (zq 10 23) HT_ ?_
 refine zpu 5 (some 22) (zq 10 55) HT_ ?_
 refine zpu 6 (some 23) (zq 10 119) HT_ ?_
 refine ztk 3 (some 20) (zq 10 127) HT_ HW_ rfl hHeld (Or.inl ⟨by rfl, by (rintro w' ⟨s0, s1, s2, s3, s4, s5⟩; go_simp; with_reducible rfl)⟩) ?_
 refine ztk 7 (some 24) (zq 10 255) HT_ HW_ rfl hHeld (Or.inl ⟨by rfl, by (rintro w' ⟨s0, s1, s2, s3, s4, s5⟩; go_simp; with_reducible rfl)⟩) ?_
 refine one_ (i := 8) (N := some 25) (zq 10 511) rfl rfl (one_of HT_.out (by kernel_rfl)) (by decide) (fun K hK => ?_)
 refine goes_ Try.func160 (by kernel_rfl) rfl #[.agg #[.int .i8 ((rd_T116 l0 x5_1).f0.f0), .int .i8 ((rd_T116 l0 x5_1).f0.f1), .int .i8 ((rd_T116 l0 x5_1).f1)], .agg #[.int .i8 ((rd_T116 l1 x5_1).f0.f0), .int .i8 ((rd_T116 l1 x5_1).f0.f1), .int .i8 ((rd_T116 l1 x5_1).f1)]] (by rfl) rfl rfl zm ?_
 with_reducible refine (laws_eqPort.calls k1 ((rd_T116 l0 x5_1).f0.f0) ((rd_T116 l0 x5_1).f0.f1) ((rd_T116 l0 x5_1).f1) ((rd_T116 l1 x5_1).f0.f0) ((rd_T116 l1 x5_1).f0.f1) ((rd_T116 l1 x5_1).f1) false _ A7.out).mono ?_
 rintro e w12 ⟨rfl, hb⟩
 refine ⟨_, rfl, ?_⟩
 have n0_ := zb HB hb
 clear HB
 have HB := n0_
 clear n0_
 (try clear hb)
 (try clear hb2)
 (try clear hk)
 (try clear hi)
 refine hK.out _ _ ⟨(zc HB hw179_0), (zc HB hw179_1), (zc HB hw179_2), (zc HB hw180_0), (zc HB hw180_1), (zc HB hw180_2)⟩ (fun hHeld => ?_)
 clear hK K
 refine norm_ (a' := ?_) ?_ ?_
 rotate_left
 ·show Act.put _ (some 25) _ = _
  exact zap
 refine zpu 9 (some 26) (zq 10 1023) HT_ ?_
 refine done_ (done_of HT_.out (by kernel_rfl)) ?_
 try go_wp2
 go_ret
 exact ⟨zv, zbo⟩
def laws_eqCellS.l0 : Nat → List (S74) → List (S74) → Int → Option (Bool)
  | 0, _, _, _ => none
  | k + 1, x0, x1, x5 => if x5 < (x0.length : Int) then (if 0 ≤ x5 then (if x5 < (x1.length : Int) then ((laws_eqCell.f k ((rd_T74 x0 x5).f0) ((rd_T74 x0 x5).f1) ((rd_T74 x1 x5).f0) ((rd_T74 x1 x5).f1)).bind fun t184 => (if t184 = true then (laws_eqCellS.l0 k x0 x1 (wrap64 (x5 + 1))) else (some false))) else (none)) else (none)) else (some true)
def laws_eqCellS.f (k : Nat) (l0 : List (S74)) (l1 : List (S74)) : Option (Bool) := if (l0.length : Int) = (l1.length : Int) then (laws_eqCellS.l0 k l0 l1 0) else (some false)
theorem laws_eqCellS.mono_l : ∀ k, (∀ y0 y1 y2, LeO (laws_eqCellS.l0 k y0 y1 y2) (laws_eqCellS.l0 (k + 1) y0 y1 y2))
  | 0 => fun _ _ _ r h => by simp [laws_eqCellS.l0] at h
  | k + 1 => by
    have ih0 := laws_eqCellS.mono_l k
    · intro y0 y1 y2
      unfold laws_eqCellS.l0
      repeat' first | (with_reducible first | apply ih0 | apply laws_eqCell.mono | exact LeO.refl _ | exact LeO.none _ | refine LeO.ite ?_ ?_ | refine LeO.bind ?_ (fun _ => ?_)) | apply ih0 | apply laws_eqCell.mono | exact LeO.none _ | refine LeO.ite ?_ ?_ | refine LeO.bind ?_ (fun _ => ?_)
theorem laws_eqCellS.mono : ∀ a0 a1 k, LeO (laws_eqCellS.f k a0 a1) (laws_eqCellS.f (k + 1) a0 a1) := by
 intro a0 a1 k
 have ih0 := laws_eqCellS.mono_l k
 unfold laws_eqCellS.f
 repeat' first | (with_reducible first | apply ih0 | apply laws_eqCell.mono | exact LeO.refl _ | exact LeO.none _ | refine LeO.ite ?_ ?_ | refine LeO.bind ?_ (fun _ => ?_)) | apply ih0 | apply laws_eqCell.mono | exact LeO.none _ | refine LeO.ite ?_ ?_ | refine LeO.bind ?_ (fun _ => ?_)
def laws_eqCellS.T6 : Bool × List (List Nat × List Nat) := (true, [([], []), ([], []), ([0, 1], [0, 1]), ([2], [2]), ([], []), ([], []), ([4, 5], [4, 5]), ([6], [6]), ([3, 7], [3, 7]), ([8], [8])])
def laws_eqCellS.B6 : List Nat := [0, 0, 3, 7, 0, 0, 48, 112, 255, 511]
theorem laws_eqCellS.tab6 : rtab .any (opsOf Try.f93 6) = laws_eqCellS.T6 := by kernel_rfl
theorem laws_eqCellS.bits6 : waitsOk laws_eqCellS.T6.2 laws_eqCellS.B6 = true := by kernel_rfl
theorem laws_eqCellS.calls (k : Nat) (A0 : Option Addr) (c0 : Nat) (l0 : List (S74)) (A1 : Option Addr) (c1 : Nat) (l1 : List (S74)) (r : Bool) (w : World) (hr0 : Kd.C k74 w A0 l0.length l0) (hc0 : l0.length ≤ c0) (hr1 : Kd.C k74 w A1 l1.length l1) (hc1 : l1.length ≤ c1) (h : laws_eqCellS.f k l0 l1 = some r) :
    Calls Try.prog 93 #[.slice A0 l0.length c0, .slice A1 l1.length c1] w fun e w' => e = .returned (.bool r) ∧ Below w.heap.size w w' := by
 have hu74 := Try.underlying74
 have HR0 := Aside0.mk hr0
 have HC0 := Aside0.mk hc0
 clear hr0 hc0
 have HR1 := Aside0.mk hr1
 have HC1 := Aside0.mk hc1
 clear hr1 hc1
 have HB := Aside0.mk (Below.refl w.heap.size w)
 have H : (if (l0.length : Int) = (l1.length : Int) then (laws_eqCellS.l0 k l0 l1 0) else (some false)) = some r := h
 clear h
 by_cases c3 : (l0.length : Int) = (l1.length : Int)
 rotate_left
 ·rw [if_neg c3] at H
  have c3b0 : ((l0.length : Int) == (l1.length : Int)) = false := beq_eq_false_iff_ne.mpr c3
  have c3b1 : ((l0.length : Int) != (l1.length : Int)) = true := bne_iff_ne.mpr c3
  have c3b2 : (l0.length == l1.length) = false := by first | simpa using c3 | (simp at c3 ⊢; omega)
  obtain rfl := Option.some.inj H
  go_enter Try.func93, Try.ntmps93
  go_wp2
  go_ret
  exact ⟨zv, zbo⟩
 rw [if_pos c3] at H
 have c3b0 : ((l0.length : Int) == (l1.length : Int)) = true := beq_iff_eq.mpr c3
 have c3b1 : ((l0.length : Int) != (l1.length : Int)) = false := bne_eq_false_iff_eq.mpr c3
 have c3b2 : (l0.length == l1.length) = true := by first | simpa using c3 | (simp at c3 ⊢; omega)
 clear c3
 have H' := Aside0.mk H
 clear H
 go_enter Try.func93, Try.ntmps93
 go_wp2
 go_loopg [5] k (fun kq v5 w' => ∃ (x5_1 : Int), v5 = .int .i64 x5_1 ∧ Aside0 (laws_eqCellS.l0 kq l0 l1 x5_1 = some r) ∧ Aside0 (kq ≤ k) ∧ Aside0 (Below w.heap.size w w'))
 case atStart => exact ⟨(0), zi, H', ⟨Nat.le_refl _⟩, zl HB⟩
 clear H'
 try clear c1
 try clear p2
 try clear c3
 try clear c3b0
 try clear c3b1
 try clear c3b2
 obtain ⟨x5_1, rfl, HA, HK1, HB⟩ := hrel
 cases gk with
 | zero => exact absurd HA.out (by simp [laws_eqCellS.l0])
 | succ k1 => ?_
 have H := HA.out
 clear HA
 simp only [laws_eqCellS.l0] at H
 by_cases c4 : x5_1 < (l0.length : Int)
 rotate_left
 ·rw [if_neg c4] at H
  have c4b0 : decide (x5_1 < (l0.length : Int)) = false := decide_eq_false c4
  clear c4
  obtain rfl := Option.some.inj H
  go_wp2
  go_ret
  exact ⟨zv, zbo⟩
 rw [if_pos c4] at H
 have c4b0 : decide (x5_1 < (l0.length : Int)) = true := decide_eq_true c4
 clear c4
 by_cases c5 : 0 ≤ x5_1
 rotate_left
 ·rw [if_neg c5] at H
  exact absurd H (by simp)
 rw [if_pos c5] at H
 have c5b0 : decide (0 ≤ x5_1) = true := decide_eq_true c5
 clear c5
 by_cases c6 : x5_1 < (l1.length : Int)
 rotate_left
 ·rw [if_neg c6] at H
  exact absurd H (by simp)
 rw [if_pos c6] at H
 have c6b0 : decide (x5_1 < (l1.length : Int)) = true := decide_eq_true c6
 clear c6
 replace H := zob H
 obtain ⟨t184, A70, H⟩ := H
 replace H : (if t184 = true then (laws_eqCellS.l0 k1 l0 l1 (wrap64 (x5_1 + 1))) else (some false)) = some r := H
 have A7 := Aside0.mk A70
 clear A70
 by_cases c8 : t184 = true
 ·subst c8
  have H1 : (laws_eqCellS.l0 k1 l0 l1 (wrap64 (x5_1 + 1))) = some r := by rw [if_pos rfl] at H; exact H
  clear H
  have H := H1
  clear H1
  have H' := Aside0.mk H
  clear H
  try go_wp2
  have n0_ := Aside0.mk (below_drew1 HB.out)
  clear HB
  have HB := n0_
  clear n0_
  have p182 : 0 ≤ (x5_1 : Int) := of_decide_eq_true zA
  have q182 : x5_1 < (l0.length : Int) := of_decide_eq_true zA
  obtain ⟨ad182, e182, hx182_0, hx182_1⟩ := at_T74 HR0.out x5_1 p182 q182
  have hw182_1 := hx182_1
  have hw182_0 := hx182_0
  cases e182
  replace hx182_0 := zc HB hx182_0
  replace hx182_1 := zc HB hx182_1
  replace p182 := eq_true p182
  replace q182 := eq_true q182
  have p183 : 0 ≤ (x5_1 : Int) := of_decide_eq_true zA
  have q183 : x5_1 < (l1.length : Int) := of_decide_eq_true zA
  obtain ⟨ad183, e183, hx183_0, hx183_1⟩ := at_T74 HR1.out x5_1 p183 q183
  have hw183_1 := hx183_1
  have hw183_0 := hx183_0
  cases e183
  replace hx183_0 := zc HB hx183_0
  replace hx183_1 := zc HB hx183_1
  replace p183 := eq_true p183
  replace q183 := eq_true q183
  refine start_ (n := 10) (S := fun w' => w'.cell? (ad182.add ((x5_1).toNat * 2)) = some (.int .i8 ((rd_T74 l0 x5_1).f0)) ∧ w'.cell? ⟨(ad182.add ((x5_1).toNat * 2)).block, (ad182.add ((x5_1).toNat * 2)).off + 1, none⟩ = some (.int .i8 ((rd_T74 l0 x5_1).f1)) ∧ w'.cell? (ad183.add ((x5_1).toNat * 2)) = some (.int .i8 ((rd_T74 l1 x5_1).f0)) ∧ w'.cell? ⟨(ad183.add ((x5_1).toNat * 2)).block, (ad183.add ((x5_1).toNat * 2)).off + 1, none⟩ = some (.int .i8 ((rd_T74 l1 x5_1).f1))) (ds := []) (zq 10 0) (by kernel_rfl) rfl rfl ⟨(zc HB hw182_0), (zc HB hw182_1), (zc HB hw183_0), (zc HB hw183_1)⟩ (fun hHeld => ?_); refine with_tabW laws_eqCellS.tab6 laws_eqCellS.bits6 (fun HT_ HW_ => ?_)
  generalize wr.drew = w9 at HB hx182_0 hx182_1 hx183_0 hx183_1 hHeld ⊢
  refine zpu 0 (some 17) (zq 10 1) HT_ ?_
  refine zpu 1 (some 18) (zq 10 3) HT_ ?_
  refine zpu 2 (some 19) (zq 10 7) HT_ ?_
  refine zpu 4 (some 21) (zq 10 23) HT_ ?_
  refine zpu 5 (some 22) (zq 10 55) HT_ ?_
  refine zpu 6 (some 23) (zq 10 119) HT_ ?_
  refine ztk 3 (some 20) (zq 10 127) HT_ HW_ rfl hHeld (Or.inl ⟨by rfl, by (rintro w' ⟨s0, s1, s2, s3⟩; go_simp; with_reducible rfl)⟩) ?_
  refine ztk 7 (some 24) (zq 10 255) HT_ HW_ rfl hHeld (Or.inl ⟨by rfl, by (rintro w' ⟨s0, s1, s2, s3⟩; go_simp; with_reducible rfl)⟩) ?_
  refine one_ (i := 8) (N := some 25) (zq 10 511) rfl rfl (one_of HT_.out (by kernel_rfl)) (by decide) (fun K hK => ?_)
  refine goes_ Try.func159 (by kernel_rfl) rfl #[.agg #[.int .i8 ((rd_T74 l0 x5_1).f0), .int .i8 ((rd_T74 l0 x5_1).f1)], .agg #[.int .i8 ((rd_T74 l1 x5_1).f0), .int .i8 ((rd_T74 l1 x5_1).f1)]] (by rfl) rfl rfl zm ?_
  with_reducible refine (laws_eqCell.calls k1 ((rd_T74 l0 x5_1).f0) ((rd_T74 l0 x5_1).f1) ((rd_T74 l1 x5_1).f0) ((rd_T74 l1 x5_1).f1) true _ A7.out).mono ?_
  rintro e w10 ⟨rfl, hb⟩
  refine ⟨_, rfl, ?_⟩
  have n0_ := zb HB hb
  clear HB
  have HB := n0_
  clear n0_
  (try clear hb)
  (try clear hb2)
  (try clear hk)
  (try clear hi)
  refine hK.out _ _ ⟨(zc HB hw182_0), (zc HB hw182_1), (zc HB hw183_0), (zc HB hw183_1)⟩ (fun hHeld => ?_)
  clear hK K
  refine norm_ (a' := ?_) ?_ ?_
  rotate_left
  ·show Act.put _ (some 25) _ = _
   exact zap
  refine zpu 9 (some 26) (zq 10 1023) HT_ ?_
  refine done_ (done_of HT_.out (by kernel_rfl)) ?_
  try go_wp2
  go_roundg k1
  case measure => have := HK1.out; omega
  case rel => exact ⟨(wrap64 (x5_1 + 1)), zi, H', ⟨by have := HK1.out; omega⟩, zl HB⟩
 replace c8 := Bool.eq_false_iff.mpr c8
 subst c8
 have H1 : (some false) = some r := by rw [if_neg (show ¬ (false = true) by decide)] at H; exact H
 clear H
 have H := H1
 clear H1
 obtain rfl := Option.some.inj H
 try go_wp2
 have n0_ := Aside0.mk (below_drew1 HB.out)
 clear HB
 have HB := n0_
 clear n0_
 have p182 : 0 ≤ (x5_1 : Int) := of_decide_eq_true zA
 have q182 : x5_1 < (l0.length : Int) := of_decide_eq_true zA
 obtain ⟨ad182, e182, hx182_0, hx182_1⟩ := at_T74 HR0.out x5_1 p182 q182
 have hw182_1 := hx182_1
 have hw182_0 := hx182_0
 cases e182
 replace hx182_0 := zc HB hx182_0
 replace hx182_1 := zc HB hx182_1
 replace p182 := eq_true p182
 replace q182 := eq_true q182
 have p183 : 0 ≤ (x5_1 : Int) := of_decide_eq_true zA
 have q183 : x5_1 < (l1.length : Int) := of_decide_eq_true zA
 obtain ⟨ad183, e183, hx183_0, hx183_1⟩ := at_T74 HR1.out x5_1 p183 q183
 have hw183_1 := hx183_1
 have hw183_0 := hx183_0
 cases e183
 replace hx183_0 := zc HB hx183_0
 replace hx183_1 := zc HB hx183_1
 replace p183 := eq_true p183
 replace q183 := eq_true q183
 refine start_ (n := 10) (S := fun w' => w'.cell? (ad182.add ((x5_1).toNat * 2)) = some (.int .i8 ((rd_T74 l0 x5_1).f0)) ∧ w'.cell? ⟨(ad182.add ((x5_1).toNat * 2)).block, (ad182.add ((x5_1).toNat * 2)).off + 1, none⟩ = some (.int .i8 ((rd_T74 l0 x5_1).f1)) ∧ w'.cell? (ad183.add ((x5_1).toNat * 2)) = some (.int .i8 ((rd_T74 l1 x5_1).f0)) ∧ w'.cell? ⟨(ad183.add ((x5_1).toNat * 2)).block, (ad183.add ((x5_1).toNat * 2)).off + 1, none⟩ = some (.int .i8 ((rd_T74 l1 x5_1).f1))) (ds := []) (zq 10 0) (by kernel_rfl) rfl rfl ⟨(zc HB hw182_0), (zc HB hw182_1), (zc HB hw183_0), (zc HB hw183_1)⟩ (fun hHeld => ?_); refine with_tabW laws_eqCellS.tab6 laws_eqCellS.bits6 (fun HT_ HW_ => ?_)
 generalize wr.drew = w11 at HB hx182_0 hx182_1 hx183_0 hx183_1 hHeld ⊢
 refine zpu 0 (some 17) (zq 10 1) HT_ ?_
 refine zpu 1 (some 18) (zq 10 3) HT_ ?_
 refine zpu 2 (some 19) (zq 10 7) HT_ ?_
 refine zpu 4 (some 21) (zq 10 23) HT_ ?_
 refine zpu 5 (some 22) (zq 10 55) HT_ ?_
 refine zpu 6 (some 23) (zq 10 119) HT_ ?_
 refine ztk 3 (some 20) (zq 10 127) HT_ HW_ rfl hHeld (Or.inl ⟨by rfl, by (rintro w' ⟨s0, s1, s2, s3⟩; go_simp; with_reducible rfl)⟩) ?_
 refine ztk 7 (some 24) (zq 10 255) HT_ HW_ rfl hHeld (Or.inl ⟨by rfl, by (rintro w' ⟨s0, s1, s2, s3⟩; go_simp; with_reducible rfl)⟩) ?_
 refine one_ (i := 8) (N := some 25) (zq 10 511) rfl rfl (one_of HT_.out (by kernel_rfl)) (by decide) (fun K hK => ?_)
 refine goes_ Try.func159 (by kernel_rfl) rfl #[.agg #[.int .i8 ((rd_T74 l0 x5_1).f0), .int .i8 ((rd_T74 l0 x5_1).f1)], .agg #[.int .i8 ((rd_T74 l1 x5_1).f0), .int .i8 ((rd_T74 l1 x5_1).f1)]] (by rfl) rfl rfl zm ?_
 with_reducible refine (laws_eqCell.calls k1 ((rd_T74 l0 x5_1).f0) ((rd_T74 l0 x5_1).f1) ((rd_T74 l1 x5_1).f0) ((rd_T74 l1 x5_1).f1) false _ A7.out).mono ?_
 rintro e w12 ⟨rfl, hb⟩
 refine ⟨_, rfl, ?_⟩
 have n0_ := zb HB hb
 clear HB
 have HB := n0_
 clear n0_
 (try clear hb)
 (try clear hb2)
 (try clear hk)
 (try clear hi)
 refine hK.out _ _ ⟨(zc HB hw182_0), (zc HB hw182_1), (zc HB hw183_0), (zc HB hw183_1)⟩ (fun hHeld => ?_)
 clear hK K
 refine norm_ (a' := ?_) ?_ ?_
 rotate_left
 ·show Act.put _ (some 25) _ = _
  exact zap
 refine zpu 9 (some 26) (zq 10 1023) HT_ ?_
 refine done_ (done_of HT_.out (by kernel_rfl)) ?_
 try go_wp2
 go_ret
 exact ⟨zv, zbo⟩
def laws_eqMachine.f (k : Nat) (a0_0 : Int) (a0_1 : Int) (l0_2 : List (S91)) (l0_3 : List (S116)) (l0_4 : List (S74)) (a1_0 : Int) (a1_1 : Int) (l1_2 : List (S91)) (l1_3 : List (S116)) (l1_4 : List (S74)) : Option (Bool) := (laws_eqBoard.f k a0_0 a0_1 l0_2 a1_0 a1_1 l1_2).bind fun t187 => (if t187 = true then ((laws_eqPortS.f k l0_3 l1_3).bind fun t188 => (if t188 = true then ((laws_eqCellS.f k l0_4 l1_4).bind fun t189 => (if t189 = true then (some true) else (some false))) else (some false))) else (some false))
theorem laws_eqMachine.mono : ∀ a0 a1 a2 a3 a4 a5 a6 a7 a8 a9 k, LeO (laws_eqMachine.f k a0 a1 a2 a3 a4 a5 a6 a7 a8 a9) (laws_eqMachine.f (k + 1) a0 a1 a2 a3 a4 a5 a6 a7 a8 a9) := by
 intro a0 a1 a2 a3 a4 a5 a6 a7 a8 a9 k
 unfold laws_eqMachine.f
 repeat' first | (with_reducible first | apply laws_eqBoard.mono | apply laws_eqCellS.mono | apply laws_eqPortS.mono | exact LeO.refl _ | exact LeO.none _ | refine LeO.ite ?_ ?_ | refine LeO.bind ?_ (fun _ => ?_)) | apply laws_eqBoard.mono | apply laws_eqCellS.mono | apply laws_eqPortS.mono | exact LeO.none _ | refine LeO.ite ?_ ?_ | refine LeO.bind ?_ (fun _ => ?_)
theorem laws_eqMachine.calls (k : Nat) (a0_0 : Int) (a0_1 : Int) (A0_2 : Option Addr) (c0_2 : Nat) (l0_2 : List (S91)) (A0_3 : Option Addr) (c0_3 : Nat) (l0_3 : List (S116)) (A0_4 : Option Addr) (c0_4 : Nat) (l0_4 : List (S74)) (a1_0 : Int) (a1_1 : Int) (A1_2 : Option Addr) (c1_2 : Nat) (l1_2 : List (S91)) (A1_3 : Option Addr) (c1_3 : Nat) (l1_3 : List (S116)) (A1_4 : Option Addr) (c1_4 : Nat) (l1_4 : List (S74)) (r : Bool) (w : World) (hr0_2 : Kd.C k91 w A0_2 l0_2.length l0_2) (hc0_2 : l0_2.length ≤ c0_2) (hr0_3 : Kd.C k116 w A0_3 l0_3.length l0_3) (hc0_3 : l0_3.length ≤ c0_3) (hr0_4 : Kd.C k74 w A0_4 l0_4.length l0_4) (hc0_4 : l0_4.length ≤ c0_4) (hr1_2 : Kd.C k91 w A1_2 l1_2.length l1_2) (hc1_2 : l1_2.length ≤ c1_2) (hr1_3 : Kd.C k116 w A1_3 l1_3.length l1_3) (hc1_3 : l1_3.length ≤ c1_3) (hr1_4 : Kd.C k74 w A1_4 l1_4.length l1_4) (hc1_4 : l1_4.length ≤ c1_4) (h : laws_eqMachine.f k a0_0 a0_1 l0_2 l0_3 l0_4 a1_0 a1_1 l1_2 l1_3 l1_4 = some r) :
    Calls Try.prog 27 #[.agg #[.int .i8 a0_0, .int .i8 a0_1, .slice A0_2 l0_2.length c0_2, .slice A0_3 l0_3.length c0_3, .slice A0_4 l0_4.length c0_4], .agg #[.int .i8 a1_0, .int .i8 a1_1, .slice A1_2 l1_2.length c1_2, .slice A1_3 l1_3.length c1_3, .slice A1_4 l1_4.length c1_4]] w fun e w' => e = .returned (.bool r) ∧ Below w.heap.size w w' := by
 have hu41 := Try.underlying41
 have hu37 := Try.underlying37
 have HR0_2 := Aside0.mk hr0_2
 have HC0_2 := Aside0.mk hc0_2
 clear hr0_2 hc0_2
 have HR0_3 := Aside0.mk hr0_3
 have HC0_3 := Aside0.mk hc0_3
 clear hr0_3 hc0_3
 have HR0_4 := Aside0.mk hr0_4
 have HC0_4 := Aside0.mk hc0_4
 clear hr0_4 hc0_4
 have HR1_2 := Aside0.mk hr1_2
 have HC1_2 := Aside0.mk hc1_2
 clear hr1_2 hc1_2
 have HR1_3 := Aside0.mk hr1_3
 have HC1_3 := Aside0.mk hc1_3
 clear hr1_3 hc1_3
 have HR1_4 := Aside0.mk hr1_4
 have HC1_4 := Aside0.mk hc1_4
 clear hr1_4 hc1_4
 have HB := Aside0.mk (Below.refl w.heap.size w)
 have H : ((laws_eqBoard.f k a0_0 a0_1 l0_2 a1_0 a1_1 l1_2).bind fun t187 => (if t187 = true then ((laws_eqPortS.f k l0_3 l1_3).bind fun t188 => (if t188 = true then ((laws_eqCellS.f k l0_4 l1_4).bind fun t189 => (if t189 = true then (some true) else (some false))) else (some false))) else (some false))) = some r := h
 clear h
 replace H := zob H
 obtain ⟨t187, A30, H⟩ := H
 replace H : (if t187 = true then ((laws_eqPortS.f k l0_3 l1_3).bind fun t188 => (if t188 = true then ((laws_eqCellS.f k l0_4 l1_4).bind fun t189 => (if t189 = true then (some true) else (some false))) else (some false))) else (some false)) = some r := H
 have A3 := Aside0.mk A30
 clear A30
 by_cases c4 : t187 = true
 rotate_left
 ·replace c4 := Bool.eq_false_iff.mpr c4
  subst c4
  have H1 : (some false) = some r := by rw [if_neg (show ¬ (false = true) by decide)] at H; exact H
  clear H
  have H := H1
  clear H1
  obtain rfl := Option.some.inj H
  go_enter Try.func27, Try.ntmps27
  go_wp2_with (first | ((with_reducible refine gate_dst (N := 2) rfl ?_); refine zbx 2 #[.int .i8 a0_0, .int .i8 a0_1, .slice A0_2 l0_2.length c0_2, .slice A0_3 l0_3.length c0_3, .slice A0_4 l0_4.length c0_4] 41 ?_; intro gb185 hg w42 hbox hb; have n_ : _ ∧ _ ∧ _ ∧ _ := ⟨zb HB hb, Aside0.mk (hbox), zg HB hg, zg HB hg⟩; clear HB; obtain ⟨HB, BK185, GW185, GE185⟩ := n_; clear hb hbox hg) | ((with_reducible refine gate_dst (N := 3) rfl ?_); refine zbx 3 #[.int .i8 a1_0, .int .i8 a1_1, .slice A1_2 l1_2.length c1_2, .slice A1_3 l1_3.length c1_3, .slice A1_4 l1_4.length c1_4] 41 ?_; intro gb186 hg w43 hbox hb; have n_ : _ ∧ _ ∧ _ ∧ _ ∧ _ ∧ _ ∧ _ := ⟨zk BK185 hb, zbs hb, Aside0.mk (hbox), zg HB hg, zg HB hg, zn1 BK185 hg, zn2 BK185 hg⟩; clear BK185 HB; obtain ⟨BK185, HB, BK186, GW186, GE186, NB185_186, NB186_185⟩ := n_; clear hb hbox hg; have hnb44 := NB185_186.out; have hnc44 := NB186_185.out; obtain ⟨z45_0, z45_1, z45_2, z45_3, z45_4, y45_0, y45_1, y45_2, y45_3, y45_4⟩ := zB5 BK185; obtain ⟨z46_0, z46_1, z46_2, z46_3, z46_4, y46_0, y46_1, y46_2, y46_3, y46_4⟩ := zB5 BK186) | ((with_reducible refine gate_callee (f := 44) rfl ?_); refine goesL_ (some 9) rfl rfl Try.func44 (by kernel_rfl) rfl #[.agg #[.int .i8 a0_0, .int .i8 a0_1, .slice A0_2 l0_2.length c0_2], .agg #[.int .i8 a1_0, .int .i8 a1_1, .slice A1_2 l1_2.length c1_2]] rfl zm ?_; (with_reducible refine (laws_eqBoard.calls k a0_0 a0_1 _ _ l0_2 a1_0 a1_1 _ _ l1_2 false _ ?side1 ?side2 ?side3 ?side4 A3.out).mono ?_); (case side1 => exact zcc HB HR0_2.out); (case side2 => exact HC0_2.out); (case side3 => exact zcc HB HR1_2.out); (case side4 => exact HC1_2.out); rintro e w47 ⟨rfl, hb⟩; refine ⟨_, rfl, ?_⟩; have n_ : _ ∧ _ ∧ _ := ⟨zk BK185 hb, zk BK186 hb, zbs hb⟩; clear BK185 BK186 HB; obtain ⟨BK185, BK186, HB⟩ := n_; (try clear hb); (try clear hb2); (try clear hk); (try clear hi)))
  go_ret
  exact ⟨zv, zbo⟩
 subst c4
 have H1 : ((laws_eqPortS.f k l0_3 l1_3).bind fun t188 => (if t188 = true then ((laws_eqCellS.f k l0_4 l1_4).bind fun t189 => (if t189 = true then (some true) else (some false))) else (some false))) = some r := by rw [if_pos rfl] at H; exact H
 clear H
 have H := H1
 clear H1
 replace H := zob H
 obtain ⟨t188, A50, H⟩ := H
 replace H : (if t188 = true then ((laws_eqCellS.f k l0_4 l1_4).bind fun t189 => (if t189 = true then (some true) else (some false))) else (some false)) = some r := H
 have A5 := Aside0.mk A50
 clear A50
 by_cases c6 : t188 = true
 rotate_left
 ·replace c6 := Bool.eq_false_iff.mpr c6
  subst c6
  have H1 : (some false) = some r := by rw [if_neg (show ¬ (false = true) by decide)] at H; exact H
  clear H
  have H := H1
  clear H1
  obtain rfl := Option.some.inj H
  go_enter Try.func27, Try.ntmps27
  go_wp2_with (first | ((with_reducible refine gate_dst (N := 2) rfl ?_); refine zbx 2 #[.int .i8 a0_0, .int .i8 a0_1, .slice A0_2 l0_2.length c0_2, .slice A0_3 l0_3.length c0_3, .slice A0_4 l0_4.length c0_4] 41 ?_; intro gb185 hg w33 hbox hb; have n_ : _ ∧ _ ∧ _ ∧ _ := ⟨zb HB hb, Aside0.mk (hbox), zg HB hg, zg HB hg⟩; clear HB; obtain ⟨HB, BK185, GW185, GE185⟩ := n_; clear hb hbox hg) | ((with_reducible refine gate_dst (N := 3) rfl ?_); refine zbx 3 #[.int .i8 a1_0, .int .i8 a1_1, .slice A1_2 l1_2.length c1_2, .slice A1_3 l1_3.length c1_3, .slice A1_4 l1_4.length c1_4] 41 ?_; intro gb186 hg w34 hbox hb; have n_ : _ ∧ _ ∧ _ ∧ _ ∧ _ ∧ _ ∧ _ := ⟨zk BK185 hb, zbs hb, Aside0.mk (hbox), zg HB hg, zg HB hg, zn1 BK185 hg, zn2 BK185 hg⟩; clear BK185 HB; obtain ⟨BK185, HB, BK186, GW186, GE186, NB185_186, NB186_185⟩ := n_; clear hb hbox hg; have hnb35 := NB185_186.out; have hnc35 := NB186_185.out; obtain ⟨z36_0, z36_1, z36_2, z36_3, z36_4, y36_0, y36_1, y36_2, y36_3, y36_4⟩ := zB5 BK185; obtain ⟨z37_0, z37_1, z37_2, z37_3, z37_4, y37_0, y37_1, y37_2, y37_3, y37_4⟩ := zB5 BK186) | ((with_reducible refine gate_callee (f := 44) rfl ?_); refine goesL_ (some 9) rfl rfl Try.func44 (by kernel_rfl) rfl #[.agg #[.int .i8 a0_0, .int .i8 a0_1, .slice A0_2 l0_2.length c0_2], .agg #[.int .i8 a1_0, .int .i8 a1_1, .slice A1_2 l1_2.length c1_2]] rfl zm ?_; (with_reducible refine (laws_eqBoard.calls k a0_0 a0_1 _ _ l0_2 a1_0 a1_1 _ _ l1_2 true _ ?side1 ?side2 ?side3 ?side4 A3.out).mono ?_); (case side1 => exact zcc HB HR0_2.out); (case side2 => exact HC0_2.out); (case side3 => exact zcc HB HR1_2.out); (case side4 => exact HC1_2.out); rintro e w38 ⟨rfl, hb⟩; refine ⟨_, rfl, ?_⟩; have n_ : _ ∧ _ ∧ _ := ⟨zk BK185 hb, zk BK186 hb, zbs hb⟩; clear BK185 BK186 HB; obtain ⟨BK185, BK186, HB⟩ := n_; (try clear hb); (try clear hb2); (try clear hk); (try clear hi); obtain ⟨z39_0, z39_1, z39_2, z39_3, z39_4, y39_0, y39_1, y39_2, y39_3, y39_4⟩ := zB5 BK185; obtain ⟨z40_0, z40_1, z40_2, z40_3, z40_4, y40_0, y40_1, y40_2, y40_3, y40_4⟩ := zB5 BK186) | ((with_reducible refine gate_callee (f := 92) rfl ?_); refine goesL_ (some 15) rfl rfl Try.func92 (by kernel_rfl) rfl #[.slice A0_3 l0_3.length c0_3, .slice A1_3 l1_3.length c1_3] rfl zm ?_; (with_reducible refine (laws_eqPortS.calls k _ _ l0_3 _ _ l1_3 false _ ?side1 ?side2 ?side3 ?side4 A5.out).mono ?_); (case side1 => exact zcc HB HR0_3.out); (case side2 => exact HC0_3.out); (case side3 => exact zcc HB HR1_3.out); (case side4 => exact HC1_3.out); rintro e w41 ⟨rfl, hb⟩; refine ⟨_, rfl, ?_⟩; have n_ : _ ∧ _ ∧ _ := ⟨zk BK185 hb, zk BK186 hb, zbs hb⟩; clear BK185 BK186 HB; obtain ⟨BK185, BK186, HB⟩ := n_; (try clear hb); (try clear hb2); (try clear hk); (try clear hi)))
  go_ret
  exact ⟨zv, zbo⟩
 subst c6
 have H1 : ((laws_eqCellS.f k l0_4 l1_4).bind fun t189 => (if t189 = true then (some true) else (some false))) = some r := by rw [if_pos rfl] at H; exact H
 clear H
 have H := H1
 clear H1
 replace H := zob H
 obtain ⟨t189, A70, H⟩ := H
 replace H : (if t189 = true then (some true) else (some false)) = some r := H
 have A7 := Aside0.mk A70
 clear A70
 by_cases c8 : t189 = true
 ·subst c8
  have H1 : (some true) = some r := by rw [if_pos rfl] at H; exact H
  clear H
  have H := H1
  clear H1
  obtain rfl := Option.some.inj H
  go_enter Try.func27, Try.ntmps27
  go_wp2_with (first | ((with_reducible refine gate_dst (N := 2) rfl ?_); refine zbx 2 #[.int .i8 a0_0, .int .i8 a0_1, .slice A0_2 l0_2.length c0_2, .slice A0_3 l0_3.length c0_3, .slice A0_4 l0_4.length c0_4] 41 ?_; intro gb185 hg w9 hbox hb; have n_ : _ ∧ _ ∧ _ ∧ _ := ⟨zb HB hb, Aside0.mk (hbox), zg HB hg, zg HB hg⟩; clear HB; obtain ⟨HB, BK185, GW185, GE185⟩ := n_; clear hb hbox hg) | ((with_reducible refine gate_dst (N := 3) rfl ?_); refine zbx 3 #[.int .i8 a1_0, .int .i8 a1_1, .slice A1_2 l1_2.length c1_2, .slice A1_3 l1_3.length c1_3, .slice A1_4 l1_4.length c1_4] 41 ?_; intro gb186 hg w10 hbox hb; have n_ : _ ∧ _ ∧ _ ∧ _ ∧ _ ∧ _ ∧ _ := ⟨zk BK185 hb, zbs hb, Aside0.mk (hbox), zg HB hg, zg HB hg, zn1 BK185 hg, zn2 BK185 hg⟩; clear BK185 HB; obtain ⟨BK185, HB, BK186, GW186, GE186, NB185_186, NB186_185⟩ := n_; clear hb hbox hg; have hnb11 := NB185_186.out; have hnc11 := NB186_185.out; obtain ⟨z12_0, z12_1, z12_2, z12_3, z12_4, y12_0, y12_1, y12_2, y12_3, y12_4⟩ := zB5 BK185; obtain ⟨z13_0, z13_1, z13_2, z13_3, z13_4, y13_0, y13_1, y13_2, y13_3, y13_4⟩ := zB5 BK186) | ((with_reducible refine gate_callee (f := 44) rfl ?_); refine goesL_ (some 9) rfl rfl Try.func44 (by kernel_rfl) rfl #[.agg #[.int .i8 a0_0, .int .i8 a0_1, .slice A0_2 l0_2.length c0_2], .agg #[.int .i8 a1_0, .int .i8 a1_1, .slice A1_2 l1_2.length c1_2]] rfl zm ?_; (with_reducible refine (laws_eqBoard.calls k a0_0 a0_1 _ _ l0_2 a1_0 a1_1 _ _ l1_2 true _ ?side1 ?side2 ?side3 ?side4 A3.out).mono ?_); (case side1 => exact zcc HB HR0_2.out); (case side2 => exact HC0_2.out); (case side3 => exact zcc HB HR1_2.out); (case side4 => exact HC1_2.out); rintro e w14 ⟨rfl, hb⟩; refine ⟨_, rfl, ?_⟩; have n_ : _ ∧ _ ∧ _ := ⟨zk BK185 hb, zk BK186 hb, zbs hb⟩; clear BK185 BK186 HB; obtain ⟨BK185, BK186, HB⟩ := n_; (try clear hb); (try clear hb2); (try clear hk); (try clear hi); obtain ⟨z15_0, z15_1, z15_2, z15_3, z15_4, y15_0, y15_1, y15_2, y15_3, y15_4⟩ := zB5 BK185; obtain ⟨z16_0, z16_1, z16_2, z16_3, z16_4, y16_0, y16_1, y16_2, y16_3, y16_4⟩ := zB5 BK186) | ((with_reducible refine gate_callee (f := 92) rfl ?_); refine goesL_ (some 15) rfl rfl Try.func92 (by kernel_rfl) rfl #[.slice A0_3 l0_3.length c0_3, .slice A1_3 l1_3.length c1_3] rfl zm ?_; (with_reducible refine (laws_eqPortS.calls k _ _ l0_3 _ _ l1_3 true _ ?side1 ?side2 ?side3 ?side4 A5.out).mono ?_); (case side1 => exact zcc HB HR0_3.out); (case side2 => exact HC0_3.out); (case side3 => exact zcc HB HR1_3.out); (case side4 => exact HC1_3.out); rintro e w17 ⟨rfl, hb⟩; refine ⟨_, rfl, ?_⟩; have n_ : _ ∧ _ ∧ _ := ⟨zk BK185 hb, zk BK186 hb, zbs hb⟩; clear BK185 BK186 HB; obtain ⟨BK185, BK186, HB⟩ := n_; (try clear hb); (try clear hb2); (try clear hk); (try clear hi); obtain ⟨z18_0, z18_1, z18_2, z18_3, z18_4, y18_0, y18_1, y18_2, y18_3, y18_4⟩ := zB5 BK185; obtain ⟨z19_0, z19_1, z19_2, z19_3, z19_4, y19_0, y19_1, y19_2, y19_3, y19_4⟩ := zB5 BK186) | ((with_reducible refine gate_callee (f := 93) rfl ?_); refine goesL_ (some 21) rfl rfl Try.func93 (by kernel_rfl) rfl #[.slice A0_4 l0_4.length c0_4, .slice A1_4 l1_4.length c1_4] rfl zm ?_; (with_reducible refine (laws_eqCellS.calls k _ _ l0_4 _ _ l1_4 true _ ?side1 ?side2 ?side3 ?side4 A7.out).mono ?_); (case side1 => exact zcc HB HR0_4.out); (case side2 => exact HC0_4.out); (case side3 => exact zcc HB HR1_4.out); (case side4 => exact HC1_4.out); rintro e w20 ⟨rfl, hb⟩; refine ⟨_, rfl, ?_⟩; have n_ : _ ∧ _ ∧ _ := ⟨zk BK185 hb, zk BK186 hb, zbs hb⟩; clear BK185 BK186 HB; obtain ⟨BK185, BK186, HB⟩ := n_; (try clear hb); (try clear hb2); (try clear hk); (try clear hi)))
  go_ret
  exact ⟨zv, zbo⟩
 replace c8 := Bool.eq_false_iff.mpr c8
 subst c8
 have H1 : (some false) = some r := by rw [if_neg (show ¬ (false = true) by decide)] at H; exact H
 clear H
 have H := H1
 clear H1
 obtain rfl := Option.some.inj H
 go_enter Try.func27, Try.ntmps27
 go_wp2_with (first | ((with_reducible refine gate_dst (N := 2) rfl ?_); refine zbx 2 #[.int .i8 a0_0, .int .i8 a0_1, .slice A0_2 l0_2.length c0_2, .slice A0_3 l0_3.length c0_3, .slice A0_4 l0_4.length c0_4] 41 ?_; intro gb185 hg w21 hbox hb; have n_ : _ ∧ _ ∧ _ ∧ _ := ⟨zb HB hb, Aside0.mk (hbox), zg HB hg, zg HB hg⟩; clear HB; obtain ⟨HB, BK185, GW185, GE185⟩ := n_; clear hb hbox hg) | ((with_reducible refine gate_dst (N := 3) rfl ?_); refine zbx 3 #[.int .i8 a1_0, .int .i8 a1_1, .slice A1_2 l1_2.length c1_2, .slice A1_3 l1_3.length c1_3, .slice A1_4 l1_4.length c1_4] 41 ?_; intro gb186 hg w22 hbox hb; have n_ : _ ∧ _ ∧ _ ∧ _ ∧ _ ∧ _ ∧ _ := ⟨zk BK185 hb, zbs hb, Aside0.mk (hbox), zg HB hg, zg HB hg, zn1 BK185 hg, zn2 BK185 hg⟩; clear BK185 HB; obtain ⟨BK185, HB, BK186, GW186, GE186, NB185_186, NB186_185⟩ := n_; clear hb hbox hg; have hnb23 := NB185_186.out; have hnc23 := NB186_185.out; obtain ⟨z24_0, z24_1, z24_2, z24_3, z24_4, y24_0, y24_1, y24_2, y24_3, y24_4⟩ := zB5 BK185; obtain ⟨z25_0, z25_1, z25_2, z25_3, z25_4, y25_0, y25_1, y25_2, y25_3, y25_4⟩ := zB5 BK186) | ((with_reducible refine gate_callee (f := 44) rfl ?_); refine goesL_ (some 9) rfl rfl Try.func44 (by kernel_rfl) rfl #[.agg #[.int .i8 a0_0, .int .i8 a0_1, .slice A0_2 l0_2.length c0_2], .agg #[.int .i8 a1_0, .int .i8 a1_1, .slice A1_2 l1_2.length c1_2]] rfl zm ?_; (with_reducible refine (laws_eqBoard.calls k a0_0 a0_1 _ _ l0_2 a1_0 a1_1 _ _ l1_2 true _ ?side1 ?side2 ?side3 ?side4 A3.out).mono ?_); (case side1 => exact zcc HB HR0_2.out); (case side2 => exact HC0_2.out); (case side3 => exact zcc HB HR1_2.out); (case side4 => exact HC1_2.out); rintro e w26 ⟨rfl, hb⟩; refine ⟨_, rfl, ?_⟩; have n_ : _ ∧ _ ∧ _ := ⟨zk BK185 hb, zk BK186 hb, zbs hb⟩; clear BK185 BK186 HB; obtain ⟨BK185, BK186, HB⟩ := n_; (try clear hb); (try clear hb2); (try clear hk); (try clear hi); obtain ⟨z27_0, z27_1, z27_2, z27_3, z27_4, y27_0, y27_1, y27_2, y27_3, y27_4⟩ := zB5 BK185; obtain ⟨z28_0, z28_1, z28_2, z28_3, z28_4, y28_0, y28_1, y28_2, y28_3, y28_4⟩ := zB5 BK186) | ((with_reducible refine gate_callee (f := 92) rfl ?_); refine goesL_ (some 15) rfl rfl Try.func92 (by kernel_rfl) rfl #[.slice A0_3 l0_3.length c0_3, .slice A1_3 l1_3.length c1_3] rfl zm ?_; (with_reducible refine (laws_eqPortS.calls k _ _ l0_3 _ _ l1_3 true _ ?side1 ?side2 ?side3 ?side4 A5.out).mono ?_); (case side1 => exact zcc HB HR0_3.out); (case side2 => exact HC0_3.out); (case side3 => exact zcc HB HR1_3.out); (case side4 => exact HC1_3.out); rintro e w29 ⟨rfl, hb⟩; refine ⟨_, rfl, ?_⟩; have n_ : _ ∧ _ ∧ _ := ⟨zk BK185 hb, zk BK186 hb, zbs hb⟩; clear BK185 BK186 HB; obtain ⟨BK185, BK186, HB⟩ := n_; (try clear hb); (try clear hb2); (try clear hk); (try clear hi); obtain ⟨z30_0, z30_1, z30_2, z30_3, z30_4, y30_0, y30_1, y30_2, y30_3, y30_4⟩ := zB5 BK185; obtain ⟨z31_0, z31_1, z31_2, z31_3, z31_4, y31_0, y31_1, y31_2, y31_3, y31_4⟩ := zB5 BK186) | ((with_reducible refine gate_callee (f := 93) rfl ?_); refine goesL_ (some 21) rfl rfl Try.func93 (by kernel_rfl) rfl #[.slice A0_4 l0_4.length c0_4, .slice A1_4 l1_4.length c1_4] rfl zm ?_; (with_reducible refine (laws_eqCellS.calls k _ _ l0_4 _ _ l1_4 false _ ?side1 ?side2 ?side3 ?side4 A7.out).mono ?_); (case side1 => exact zcc HB HR0_4.out); (case side2 => exact HC0_4.out); (case side3 => exact zcc HB HR1_4.out); (case side4 => exact HC1_4.out); rintro e w32 ⟨rfl, hb⟩; refine ⟨_, rfl, ?_⟩; have n_ : _ ∧ _ ∧ _ := ⟨zk BK185 hb, zk BK186 hb, zbs hb⟩; clear BK185 BK186 HB; obtain ⟨BK185, BK186, HB⟩ := n_; (try clear hb); (try clear hb2); (try clear hk); (try clear hi)))
 go_ret
 exact ⟨zv, zbo⟩
end Go.Proofs.Ytffnfpnajkgnaaa.PFnExactMoveMachine
