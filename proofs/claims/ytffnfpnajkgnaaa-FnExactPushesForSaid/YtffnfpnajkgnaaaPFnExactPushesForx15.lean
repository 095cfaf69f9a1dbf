-- WRITTEN by xprint.py, a program of this session's. Not trusted: Lean checks it.
-- packed by pack.py
import Derived.Test.YtffnfpnajkgnaaaPFnExactPushesForx0
import Derived.Test.YtffnfpnajkgnaaaPFnExactPushesForx14
import Derived.Test.YtffnfpnajkgnaaaTFnExactPushesFora
namespace Go.Proofs.Ytffnfpnajkgnaaa.PFnExactPushesFor
open Go.RowKit Go.Proofs.YtffnfpnajkgnaaaW.PrintWords Go.Proofs.YtffnfpnajkgnaaaW.PrintLast Go.Proofs.YtffnfpnajkgnaaaW.PrintMore Go.Proofs.YtffnfpnajkgnaaaX
attribute [local go_sem] max2_int min2_int max_two min_two max_three min_three max_four min_four   -- for this text's walks alone
set_option linter.unusedVariables false
set_option linter.unusedSimpArgs false

/-! ### laws_eqPieceS: function 110 -/
def laws_eqPieceS.l0 : Nat → List (S91) → List (S91) → Int → Option (Bool)
  | 0, _, _, _ => none
  | k + 1, x0, x1, x5 => if x5 < (x0.length : Int) then (if 0 ≤ x5 then (if x5 < (x1.length : Int) then ((laws_eqPiece.f k ((rd_T91 x0 x5).f0.f0) ((rd_T91 x0 x5).f0.f1) ((rd_T91 x0 x5).f1) ((rd_T91 x0 x5).f2) ((rd_T91 x0 x5).f3) ((rd_T91 x1 x5).f0.f0) ((rd_T91 x1 x5).f0.f1) ((rd_T91 x1 x5).f1) ((rd_T91 x1 x5).f2) ((rd_T91 x1 x5).f3)).bind fun t330 => (if t330 = true then (laws_eqPieceS.l0 k x0 x1 (wrap64 (x5 + 1))) else (some false))) else (none)) else (none)) else (some true)
def laws_eqPieceS.f (k : Nat) (l0 : List (S91)) (l1 : List (S91)) : Option (Bool) := if (l0.length : Int) = (l1.length : Int) then (laws_eqPieceS.l0 k l0 l1 0) else (some false)
theorem laws_eqPieceS.mono_l : ∀ k, (∀ y0 y1 y2, LeO (laws_eqPieceS.l0 k y0 y1 y2) (laws_eqPieceS.l0 (k + 1) y0 y1 y2))
  | 0 => fun _ _ _ r h => by simp [laws_eqPieceS.l0] at h
  | k + 1 => by
    have ih0 := laws_eqPieceS.mono_l k
    · intro y0 y1 y2
      unfold laws_eqPieceS.l0
      repeat' first | (with_reducible first | apply ih0 | apply laws_eqPiece.mono | exact LeO.refl _ | exact LeO.none _ | refine LeO.ite ?_ ?_ | refine LeO.bind ?_ (fun _ => ?_)) | apply ih0 | apply laws_eqPiece.mono | exact LeO.none _ | refine LeO.ite ?_ ?_ | refine LeO.bind ?_ (fun _ => ?_)
theorem laws_eqPieceS.mono : ∀ a0 a1 k, LeO (laws_eqPieceS.f k a0 a1) (laws_eqPieceS.f (k + 1) a0 a1) := by
 intro a0 a1 k
 have ih0 := laws_eqPieceS.mono_l k
 unfold laws_eqPieceS.f
 repeat' first | (with_reducible first | apply ih0 | apply laws_eqPiece.mono | exact LeO.refl _ | exact LeO.none _ | refine LeO.ite ?_ ?_ | refine LeO.bind ?_ (fun _ => ?_)) | apply ih0 | apply laws_eqPiece.mono | exact LeO.none _ | refine LeO.ite ?_ ?_ | refine LeO.bind ?_ (fun _ => ?_)
def laws_eqPieceS.T6 : Bool × List (List Nat × List Nat) := (true, [([], []), ([], []), ([0, 1], [0, 1]), ([2], [2]), ([], []), ([], []), ([4, 5], [4, 5]), ([6], [6]), ([3, 7], [3, 7]), ([8], [8])])
def laws_eqPieceS.B6 : List Nat := [0, 0, 3, 7, 0, 0, 48, 112, 255, 511]
theorem laws_eqPieceS.tab6 : rtab .any (opsOf Try.f110 6) = laws_eqPieceS.T6 := by kernel_rfl
theorem laws_eqPieceS.bits6 : waitsOk laws_eqPieceS.T6.2 laws_eqPieceS.B6 = true := by kernel_rfl
set_option maxHeartbeats 8000000 in
set_option maxRecDepth 100000 in
theorem laws_eqPieceS.calls (k : Nat) (A0 : Option Addr) (c0 : Nat) (l0 : List (S91)) (A1 : Option Addr) (c1 : Nat) (l1 : List (S91)) (r : Bool) (w : World) (hr0 : Kd.C k91 w A0 l0.length l0) (hc0 : l0.length ≤ c0) (hr1 : Kd.C k91 w A1 l1.length l1) (hc1 : l1.length ≤ c1) (h : laws_eqPieceS.f k l0 l1 = some r) :
    Calls Try.prog 110 #[.slice A0 l0.length c0, .slice A1 l1.length c1] w fun e w' => e = .returned (.bool r) ∧ Below w.heap.size w w' := by
 have hu91 := Try.underlying91
 have HR0 := Aside0.mk hr0
 have HC0 := Aside0.mk hc0
 clear hr0 hc0
 have HR1 := Aside0.mk hr1
 have HC1 := Aside0.mk hc1
 clear hr1 hc1
 have HB := Aside0.mk (Below.refl w.heap.size w)
 have H : (if (l0.length : Int) = (l1.length : Int) then (laws_eqPieceS.l0 k l0 l1 0) else (some false)) = some r := h
 clear h
 by_cases c3 : (l0.length : Int) = (l1.length : Int)
 rotate_left
 ·rw [if_neg c3] at H
  have c3b0 : ((l0.length : Int) == (l1.length : Int)) = false := beq_eq_false_iff_ne.mpr c3
  have c3b1 : ((l0.length : Int) != (l1.length : Int)) = true := bne_iff_ne.mpr c3
  have c3b2 : (l0.length == l1.length) = false := by first | simpa using c3 | (simp at c3 ⊢; omega)
  obtain rfl := Option.some.inj H
  go_enter Try.func110, Try.ntmps110
  go_wp2
  go_ret
  exact ⟨by first | rfl | (simp [errW_none, errW_some] <;> rfl) | (simp [*, errW_none, errW_some] <;> rfl), by repeat (first | (with_reducible first | exact HB.out | apply below_alloc | apply pw_below_drewN | apply below_drew1) | exact HB.out)⟩
 rw [if_pos c3] at H
 have c3b0 : ((l0.length : Int) == (l1.length : Int)) = true := beq_iff_eq.mpr c3
 have c3b1 : ((l0.length : Int) != (l1.length : Int)) = false := bne_eq_false_iff_eq.mpr c3
 have c3b2 : (l0.length == l1.length) = true := by first | simpa using c3 | (simp at c3 ⊢; omega)
 clear c3
 have H' := Aside0.mk H
 clear H
 go_enter Try.func110, Try.ntmps110
 go_wp2
 go_loopg [5] k (fun kq v5 w' => ∃ (x5_1 : Int), v5 = .int .i64 x5_1 ∧ Aside0 (laws_eqPieceS.l0 kq l0 l1 x5_1 = some r) ∧ Aside0 (kq ≤ k) ∧ Aside0 (Below w.heap.size w w'))
 case atStart => exact ⟨(0), (by first | rfl | (simp; done) | (simp [*]; done) | (exact congrArg (Value.int .i64) (wrap_eq (by omega)))), H', ⟨Nat.le_refl _⟩, zl HB⟩
 clear H'
 try clear c1
 try clear p2
 try clear c3
 try clear c3b0
 try clear c3b1
 try clear c3b2
 obtain ⟨x5_1, rfl, HA, HK1, HB⟩ := hrel
 cases gk with
 | zero => exact absurd HA.out (by simp [laws_eqPieceS.l0])
 | succ k1 => ?_
 have H := HA.out
 clear HA
 simp only [laws_eqPieceS.l0] at H
 by_cases c4 : x5_1 < (l0.length : Int)
 rotate_left
 ·rw [if_neg c4] at H
  have c4b0 : decide (x5_1 < (l0.length : Int)) = false := decide_eq_false c4
  clear c4
  obtain rfl := Option.some.inj H
  go_wp2
  go_ret
  exact ⟨by first | rfl | (simp [errW_none, errW_some] <;> rfl) | (simp [*, errW_none, errW_some] <;> rfl), by repeat (first | (with_reducible first | exact HB.out | apply below_alloc | apply pw_below_drewN | apply below_drew1) | exact HB.out)⟩
 rw [if_pos c4] at H
 have c4b0 : decide (x5_1 < (l0.length : Int)) = true := decide_eq_true c4
 clear c4
 by_cases c5 : 0 ≤ x5_1
 rotate_left
 ·rw [if_neg c5] at H
  exact absurd H (by simp)
 rw [if_pos c5] at H
 have c5b0 : decide (0 ≤ x5_1) = true := decide_eq_true c5
 clear c5
 by_cases c6 : x5_1 < (l1.length : Int)
 rotate_left
 ·rw [if_neg c6] at H
  exact absurd H (by simp)
 rw [if_pos c6] at H
 have c6b0 : decide (x5_1 < (l1.length : Int)) = true := decide_eq_true c6
 clear c6
 replace H := Option.bind_eq_some_iff.mp H
 obtain ⟨t330, A70, H⟩ := H
 replace H : (if t330 = true then (laws_eqPieceS.l0 k1 l0 l1 (wrap64 (x5_1 + 1))) else (some false)) = some r := H
 have A7 := Aside0.mk A70
 clear A70
 by_cases c8 : t330 = true
 ·subst c8
  have H1 : (laws_eqPieceS.l0 k1 l0 l1 (wrap64 (x5_1 + 1))) = some r := by rw [if_pos rfl] at H; exact H
  clear H
  have H := H1
  clear H1
  have H' := Aside0.mk H
  clear H
  try go_wp2
  have n0_ := Aside0.mk (below_drew1 HB.out)
  clear HB
  have HB := n0_
  clear n0_
  have p328 : 0 ≤ (x5_1 : Int) := of_decide_eq_true (by first | (with_reducible assumption) | assumption)
  have q328 : x5_1 < (l0.length : Int) := of_decide_eq_true (by first | (with_reducible assumption) | assumption)
  obtain ⟨ad328, e328, hx328_0, hx328_1, hx328_2, hx328_3, hx328_4⟩ := at_T91 HR0.out x5_1 p328 q328
  have hw328_4 := hx328_4
  have hw328_3 := hx328_3
  have hw328_2 := hx328_2
  have hw328_1 := hx328_1
  have hw328_0 := hx328_0
  cases e328
  replace hx328_0 := zc HB hx328_0
  replace hx328_1 := zc HB hx328_1
  replace hx328_2 := zc HB hx328_2
  replace hx328_3 := zc HB hx328_3
  replace hx328_4 := zc HB hx328_4
  replace p328 := eq_true p328
  replace q328 := eq_true q328
  have p329 : 0 ≤ (x5_1 : Int) := of_decide_eq_true (by first | (with_reducible assumption) | assumption)
  have q329 : x5_1 < (l1.length : Int) := of_decide_eq_true (by first | (with_reducible assumption) | assumption)
  obtain ⟨ad329, e329, hx329_0, hx329_1, hx329_2, hx329_3, hx329_4⟩ := at_T91 HR1.out x5_1 p329 q329
  have hw329_4 := hx329_4
  have hw329_3 := hx329_3
  have hw329_2 := hx329_2
  have hw329_1 := hx329_1
  have hw329_0 := hx329_0
  cases e329
  replace hx329_0 := zc HB hx329_0
  replace hx329_1 := zc HB hx329_1
  replace hx329_2 := zc HB hx329_2
  replace hx329_3 := zc HB hx329_3
  replace hx329_4 := zc HB hx329_4
  replace p329 := eq_true p329
  replace q329 := eq_true q329
  refine start_ (n := 10) (S := fun w' => w'.cell? (ad328.add ((x5_1).toNat * 5)) = some (.int .i8 ((rd_T91 l0 x5_1).f0.f0)) ∧ w'.cell? ⟨(ad328.add ((x5_1).toNat * 5)).block, (ad328.add ((x5_1).toNat * 5)).off + 1, none⟩ = some (.int .i8 ((rd_T91 l0 x5_1).f0.f1)) ∧ w'.cell? ⟨(ad328.add ((x5_1).toNat * 5)).block, (ad328.add ((x5_1).toNat * 5)).off + 2, none⟩ = some (.int .i8 ((rd_T91 l0 x5_1).f1)) ∧ w'.cell? ⟨(ad328.add ((x5_1).toNat * 5)).block, (ad328.add ((x5_1).toNat * 5)).off + 3, none⟩ = some (.int .i8 ((rd_T91 l0 x5_1).f2)) ∧ w'.cell? ⟨(ad328.add ((x5_1).toNat * 5)).block, (ad328.add ((x5_1).toNat * 5)).off + 4, none⟩ = some (.int .i8 ((rd_T91 l0 x5_1).f3)) ∧ w'.cell? (ad329.add ((x5_1).toNat * 5)) = some (.int .i8 ((rd_T91 l1 x5_1).f0.f0)) ∧ w'.cell? ⟨(ad329.add ((x5_1).toNat * 5)).block, (ad329.add ((x5_1).toNat * 5)).off + 1, none⟩ = some (.int .i8 ((rd_T91 l1 x5_1).f0.f1)) ∧ w'.cell? ⟨(ad329.add ((x5_1).toNat * 5)).block, (ad329.add ((x5_1).toNat * 5)).off + 2, none⟩ = some (.int .i8 ((rd_T91 l1 x5_1).f1)) ∧ w'.cell? ⟨(ad329.add ((x5_1).toNat * 5)).block, (ad329.add ((x5_1).toNat * 5)).off + 3, none⟩ = some (.int .i8 ((rd_T91 l1 x5_1).f2)) ∧ w'.cell? ⟨(ad329.add ((x5_1).toNat * 5)).block, (ad329.add ((x5_1).toNat * 5)).off + 4, none⟩ = some (.int .i8 ((rd_T91 l1 x5_1).f3))) (ds := []) (zq 10 0) (by kernel_rfl) rfl rfl ⟨(zc HB hw328_0), (zc HB hw328_1), (zc HB hw328_2), (zc HB hw328_3), (zc HB hw328_4), (zc HB hw329_0), (zc HB hw329_1), (zc HB hw329_2), (zc HB hw329_3), (zc HB hw329_4)⟩ (fun hHeld => ?_); refine with_tabW laws_eqPieceS.tab6 laws_eqPieceS.bits6 (fun HT_ HW_ => ?_)
  generalize wr.drew = w9 at HB hx328_0 hx328_1 hx328_2 hx328_3 hx328_4 hx329_0 hx329_1 hx329_2 hx329_3 hx329_4 hHeld ⊢
  refine zpu 0 (some 17) (zq 10 1) HT_ ?_
  refine zpu 1 (some 18) (zq 10 3) HT_ ?_
  refine zpu 2 (some 19) (zq 10 7) HT_ ?_
  refine zpu 4 (some 21) (zq 10 23) HT_ ?_
  refine zpu 5 (some 22) (zq 10 55) HT_ ?_
  refine zpu 6 (some 23) (zq 10 119) HT_ ?_
  refine ztk 3 (some 20) (zq 10 127) HT_ HW_ rfl hHeld (Or.inl ⟨by rfl, by (rintro w' ⟨s0, s1, s2, s3, s4, s5, s6, s7, s8, s9⟩; go_simp; with_reducible rfl)⟩) ?_
  refine ztk 7 (some 24) (zq 10 255) HT_ HW_ rfl hHeld (Or.inl ⟨by rfl, by (rintro w' ⟨s0, s1, s2, s3, s4, s5, s6, s7, s8, s9⟩; go_simp; with_reducible rfl)⟩) ?_
  refine one_ (i := 8) (N := some 25) (zq 10 511) rfl rfl (one_of HT_.out (by kernel_rfl)) (by decide) (fun K hK => ?_)
  refine goes_ Try.func165 (by kernel_rfl) rfl #[.agg #[.int .i8 ((rd_T91 l0 x5_1).f0.f0), .int .i8 ((rd_T91 l0 x5_1).f0.f1), .int .i8 ((rd_T91 l0 x5_1).f1), .int .i8 ((rd_T91 l0 x5_1).f2), .int .i8 ((rd_T91 l0 x5_1).f3)], .agg #[.int .i8 ((rd_T91 l1 x5_1).f0.f0), .int .i8 ((rd_T91 l1 x5_1).f0.f1), .int .i8 ((rd_T91 l1 x5_1).f1), .int .i8 ((rd_T91 l1 x5_1).f2), .int .i8 ((rd_T91 l1 x5_1).f3)]] (by rfl) rfl rfl (by (try simp only [List.map_toArray, List.map_cons, List.map_nil]); first | done | rfl | (simp only [List.length_drop, List.length_take]; rfl)) ?_
  with_reducible refine (laws_eqPiece.calls k1 ((rd_T91 l0 x5_1).f0.f0) ((rd_T91 l0 x5_1).f0.f1) ((rd_T91 l0 x5_1).f1) ((rd_T91 l0 x5_1).f2) ((rd_T91 l0 x5_1).f3) ((rd_T91 l1 x5_1).f0.f0) ((rd_T91 l1 x5_1).f0.f1) ((rd_T91 l1 x5_1).f1) ((rd_T91 l1 x5_1).f2) ((rd_T91 l1 x5_1).f3) true _ A7.out).mono ?_
  rintro e w10 ⟨rfl, hb⟩
  refine ⟨_, rfl, ?_⟩
  have n0_ := zb HB hb
  clear HB
  have HB := n0_
  clear n0_
  (try clear hb)
  (try clear hb2)
  (try clear hk)
  (try clear hi)
  refine hK.out _ _ ⟨(zc HB hw328_0), (zc HB hw328_1), (zc HB hw328_2), (zc HB hw328_3), (zc HB hw328_4), (zc HB hw329_0), (zc HB hw329_1), (zc HB hw329_2), (zc HB hw329_3), (zc HB hw329_4)⟩ (fun hHeld => ?_)
  clear hK K
  refine norm_ (a' := ?_) ?_ ?_
  rotate_left
  ·show Act.put _ (some 25) _ = _
   simp only [Act.put, List.setIfInBounds_toArray, List.set_cons_zero, List.set_cons_succ, i64_w, i32_w]
   rfl
  refine zpu 9 (some 26) (zq 10 1023) HT_ ?_
  refine done_ (done_of HT_.out (by kernel_rfl)) ?_
  try go_wp2
  go_roundg k1
  case measure => have := HK1.out; omega
  case rel => exact ⟨(wrap64 (x5_1 + 1)), (by first | rfl | (simp; done) | (simp [*]; done) | (exact congrArg (Value.int .i64) (wrap_eq (by omega)))), H', ⟨by have := HK1.out; omega⟩, zl HB⟩
 replace c8 := Bool.eq_false_iff.mpr c8
 subst c8
 have H1 : (some false) = some r := by rw [if_neg (show ¬ (false = true) by decide)] at H; exact H
 clear H
 have H := H1
 clear H1
 obtain rfl := Option.some.inj H
 try go_wp2
 have n0_ := Aside0.mk (below_drew1 HB.out)
 clear HB
 have HB := n0_
 clear n0_
 have p328 : 0 ≤ (x5_1 : Int) := of_decide_eq_true (by first | (with_reducible assumption) | assumption)
 have q328 : x5_1 < (l0.length : Int) := of_decide_eq_true (by first | (with_reducible assumption) | assumption)
 obtain ⟨ad328, e328, hx328_0, hx328_1, hx328_2, hx328_3, hx328_4⟩ := at_T91 HR0.out x5_1 p328 q328
 have hw328_4 := hx328_4
 have hw328_3 := hx328_3
 have hw328_2 := hx328_2
 have hw328_1 := hx328_1
 have hw328_0 := hx328_0
 cases e328
 replace hx328_0 := zc HB hx328_0
 replace hx328_1 := zc HB hx328_1
 replace hx328_2 := zc HB hx328_2
 replace hx328_3 := zc HB hx328_3
 replace hx328_4 := zc HB hx328_4
 replace p328 := eq_true p328
 replace q328 := eq_true q328
 have p329 : 0 ≤ (x5_1 : Int) := of_decide_eq_true (by first | (with_reducible assumption) | assumption)
 have q329 : x5_1 < (l1.length : Int) := of_decide_eq_true (by first | (with_reducible assumption) | assumption)
 obtain ⟨ad329, e329, hx329_0, hx329_1, hx329_2, hx329_3, hx329_4⟩ := at_T91 HR1.out x5_1 p329 q329
 have hw329_4 := hx329_4
 have hw329_3 := hx329_3
 have hw329_2 := hx329_2
 have hw329_1 := hx329_1
 have hw329_0 := hx329_0
 cases e329
 replace hx329_0 := zc HB hx329_0
 replace hx329_1 := zc HB hx329_1
 replace hx329_2 := zc HB hx329_2
 replace hx329_3 := zc HB hx329_3
 replace hx329_4 := zc HB hx329_4
 replace p329 := eq_true p329
 replace q329 := eq_true q329
 refine start_ (n := 10) (S := fun w' => w'.cell? (ad328.add ((x5_1).toNat * 5)) = some (.int .i8 ((rd_T91 l0 x5_1).f0.f0)) ∧ w'.cell? ⟨(ad328.add ((x5_1).toNat * 5)).block, (ad328.add ((x5_1).toNat * 5)).off + 1, none⟩ = some (.int .i8 ((rd_T91 l0 x5_1).f0.f1)) ∧ w'.cell? ⟨(ad328.add ((x5_1).toNat * 5)).block, (ad328.add ((x5_1).toNat * 5)).off + 2, none⟩ = some (.int .i8 ((rd_T91 l0 x5_1).f1)) ∧ w'.cell? ⟨(ad328.add ((x5_1).toNat * 5)).block, (ad328.add ((x5_1).toNat * 5)).off + 3, none⟩ = some (.int .i8 ((rd_T91 l0 x5_1).f2)) ∧ w'.cell? ⟨(ad328.add ((x5_1).toNat * 5)).block, (ad328.add ((x5_1).toNat * 5)).off + 4, none⟩ = some (.int .i8 ((rd_T91 l0 x5_1).f3)) ∧ w'.cell? (ad329.add ((x5_1).toNat * 5)) = some (.int .i8 ((rd_T91 l1 x5_1).f0.f0)) ∧ w'.cell? ⟨(ad329.add ((x5_1).toNat * 5)).block, (ad329.add ((x5_1).toNat * 5)).off + 1, none⟩ = some (.int .i8 ((rd_T91 l1 x5_1).f0.f1)) ∧ w'.cell? ⟨(ad329.add ((x5_1).toNat * 5)).block, (ad329.add ((x5_1).toNat * 5)).off + 2, none⟩ = some (.int .i8 ((rd_T91 l1 x5_1).f1)) ∧ w'.cell? ⟨(ad329.add ((x5_1).toNat * 5)).block, (ad329.add ((x5_1).toNat * 5)).off + 3, none⟩ = some (.int .i8 ((rd_T91 l1 x5_1).f2)) ∧ w'.cell? ⟨(ad329.add ((x5_1).toNat * 5)).block, (ad329.add ((x5_1).toNat * 5)).off + 4, none⟩ = some (.int .i8 ((rd_T91 l1 x5_1).f3))) (ds := []) (zq 10 0) (by kernel_rfl) rfl rfl ⟨(zc HB hw328_0), (zc HB hw328_1), (zc HB hw328_2), (zc HB hw328_3), (zc HB hw328_4), (zc HB hw329_0), (zc HB hw329_1), (zc HB hw329_2), (zc HB hw329_3), (zc HB hw329_4)⟩ (fun hHeld => ?_); refine with_tabW laws_eqPieceS.tab6 laws_eqPieceS.bits6 (fun HT_ HW_ => ?_)
 generalize wr.drew = w11 at HB hx328_0 hx328_1 hx328_2 hx328_3 hx328_4 hx329_0 hx329_1 hx329_2 hx329_3 hx329_4 hHeld ⊢
 refine zpu 0 (some 17) (zq 10 1) HT_ ?_
 refine zpu 1 (some 18) (zq 10 3) HT_ ?_
 refine zpu 2 (some 19) (zq 10 7) HT_ ?_
 refine zpu 4 (some 21) (zq 10 23) HT_ ?_
 refine zpu 5 (some 22) (zq 10 55) HT_ ?_
 refine zpu 6 (some 23) (zq 10 119) HT_ ?_
 refine ztk 3 (some 20) (zq 10 127) HT_ HW_ rfl hHeld (Or.inl ⟨by rfl, by (rintro w' ⟨s0, s1, s2, s3, s4, s5, s6, s7, s8, s9⟩; go_simp; with_reducible rfl)⟩) ?_
 refine ztk 7 (some 24) (zq 10 255) HT_ HW_ rfl hHeld (Or.inl ⟨by rfl, by (rintro w' ⟨s0, s1, s2, s3, s4, s5, s6, s7, s8, s9⟩; go_simp; with_reducible rfl)⟩) ?_
 refine one_ (i := 8) (N := some 25) (zq 10 511) rfl rfl (one_of HT_.out (by kernel_rfl)) (by decide) (fun K hK => ?_)
 refine goes_ Try.func165 (by kernel_rfl) rfl #[.agg #[.int .i8 ((rd_T91 l0 x5_1).f0.f0), .int .i8 ((rd_T91 l0 x5_1).f0.f1), .int .i8 ((rd_T91 l0 x5_1).f1), .int .i8 ((rd_T91 l0 x5_1).f2), .int .i8 ((rd_T91 l0 x5_1).f3)], .agg #[.int .i8 ((rd_T91 l1 x5_1).f0.f0), .int .i8 ((rd_T91 l1 x5_1).f0.f1), .int .i8 ((rd_T91 l1 x5_1).f1), .int .i8 ((rd_T91 l1 x5_1).f2), .int .i8 ((rd_T91 l1 x5_1).f3)]] (by rfl) rfl rfl (by (try simp only [List.map_toArray, List.map_cons, List.map_nil]); first | done | rfl | (simp only [List.length_drop, List.length_take]; rfl)) ?_
 with_reducible refine (laws_eqPiece.calls k1 ((rd_T91 l0 x5_1).f0.f0) ((rd_T91 l0 x5_1).f0.f1) ((rd_T91 l0 x5_1).f1) ((rd_T91 l0 x5_1).f2) ((rd_T91 l0 x5_1).f3) ((rd_T91 l1 x5_1).f0.f0) ((rd_T91 l1 x5_1).f0.f1) ((rd_T91 l1 x5_1).f1) ((rd_T91 l1 x5_1).f2) ((rd_T91 l1 x5_1).f3) false _ A7.out).mono ?_
 rintro e w12 ⟨rfl, hb⟩
 refine ⟨_, rfl, ?_⟩
 have n0_ := zb HB hb
 clear HB
 have HB := n0_
 clear n0_
 (try clear hb)
 (try clear hb2)
 (try clear hk)
 (try clear hi)
 refine hK.out _ _ ⟨(zc HB hw328_0), (zc HB hw328_1), (zc HB hw328_2), (zc HB hw328_3), (zc HB hw328_4), (zc HB hw329_0), (zc HB hw329_1), (zc HB hw329_2), (zc HB hw329_3), (zc HB hw329_4)⟩ (fun hHeld => ?_)
 clear hK K
 refine norm_ (a' := ?_) ?_ ?_
 rotate_left
 ·show Act.put _ (some 25) _ = _
  simp only [Act.put, List.setIfInBounds_toArray, List.set_cons_zero, List.set_cons_succ, i64_w, i32_w]
  rfl
 refine zpu 9 (some 26) (zq 10 1023) HT_ ?_
 refine done_ (done_of HT_.out (by kernel_rfl)) ?_
 try go_wp2
 go_ret
 exact ⟨by first | rfl | (simp [errW_none, errW_some] <;> rfl) | (simp [*, errW_none, errW_some] <;> rfl), by repeat (first | (with_reducible first | exact HB.out | apply below_alloc | apply pw_below_drewN | apply below_drew1) | exact HB.out)⟩
/-! ### laws_eqBoard: function 44 -/
def laws_eqBoard.f (k : Nat) (a0_0 : Int) (a0_1 : Int) (l0_2 : List (S91)) (a1_0 : Int) (a1_1 : Int) (l1_2 : List (S91)) : Option (Bool) := if a0_0 = a1_0 then (if a0_1 = a1_1 then ((laws_eqPieceS.f k l0_2 l1_2).bind fun t333 => (if t333 = true then (some true) else (some false))) else (some false)) else (some false)
theorem laws_eqBoard.mono : ∀ a0 a1 a2 a3 a4 a5 k, LeO (laws_eqBoard.f k a0 a1 a2 a3 a4 a5) (laws_eqBoard.f (k + 1) a0 a1 a2 a3 a4 a5) := by
 intro a0 a1 a2 a3 a4 a5 k
 unfold laws_eqBoard.f
 repeat' first | (with_reducible first | apply laws_eqPieceS.mono | exact LeO.refl _ | exact LeO.none _ | refine LeO.ite ?_ ?_ | refine LeO.bind ?_ (fun _ => ?_)) | apply laws_eqPieceS.mono | exact LeO.none _ | refine LeO.ite ?_ ?_ | refine LeO.bind ?_ (fun _ => ?_)
set_option maxHeartbeats 8000000 in
set_option maxRecDepth 100000 in
theorem laws_eqBoard.calls (k : Nat) (a0_0 : Int) (a0_1 : Int) (A0_2 : Option Addr) (c0_2 : Nat) (l0_2 : List (S91)) (a1_0 : Int) (a1_1 : Int) (A1_2 : Option Addr) (c1_2 : Nat) (l1_2 : List (S91)) (r : Bool) (w : World) (hr0_2 : Kd.C k91 w A0_2 l0_2.length l0_2) (hc0_2 : l0_2.length ≤ c0_2) (hr1_2 : Kd.C k91 w A1_2 l1_2.length l1_2) (hc1_2 : l1_2.length ≤ c1_2) (h : laws_eqBoard.f k a0_0 a0_1 l0_2 a1_0 a1_1 l1_2 = some r) :
    Calls Try.prog 44 #[.agg #[.int .i8 a0_0, .int .i8 a0_1, .slice A0_2 l0_2.length c0_2], .agg #[.int .i8 a1_0, .int .i8 a1_1, .slice A1_2 l1_2.length c1_2]] w fun e w' => e = .returned (.bool r) ∧ Below w.heap.size w w' := by
 have hu37 := Try.underlying37
 have HR0_2 := Aside0.mk hr0_2
 have HC0_2 := Aside0.mk hc0_2
 clear hr0_2 hc0_2
 have HR1_2 := Aside0.mk hr1_2
 have HC1_2 := Aside0.mk hc1_2
 clear hr1_2 hc1_2
 have HB := Aside0.mk (Below.refl w.heap.size w)
 have H : (if a0_0 = a1_0 then (if a0_1 = a1_1 then ((laws_eqPieceS.f k l0_2 l1_2).bind fun t333 => (if t333 = true then (some true) else (some false))) else (some false)) else (some false)) = some r := h
 clear h
 by_cases c3 : a0_0 = a1_0
 rotate_left
 ·rw [if_neg c3] at H
  have c3b0 : (a0_0 == a1_0) = false := beq_eq_false_iff_ne.mpr c3
  have c3b1 : (a0_0 != a1_0) = true := bne_iff_ne.mpr c3
  obtain rfl := Option.some.inj H
  go_enter Try.func44, Try.ntmps44
  go_wp2_with (first | ((with_reducible refine gate_dst (N := 2) rfl ?_); refine box_event ?hg (N := 2) ?hd (cs := #[.int .i8 a0_0, .int .i8 a0_1, .slice A0_2 l0_2.length c0_2]) (t := 37) ?hr ?_; (case hd => rfl); (case hg => rfl); (case hr => first | (go_simp; done) | (go_simp; rfl)); intro gb331 hg w24 hbox hb; have n_ : _ ∧ _ ∧ _ ∧ _ := ⟨zb HB hb, Aside0.mk (hbox), zg HB hg, zg HB hg⟩; clear HB; obtain ⟨HB, BK331, GW331, GE331⟩ := n_; clear hb hbox hg) | ((with_reducible refine gate_dst (N := 3) rfl ?_); refine box_event ?hg (N := 3) ?hd (cs := #[.int .i8 a1_0, .int .i8 a1_1, .slice A1_2 l1_2.length c1_2]) (t := 37) ?hr ?_; (case hd => rfl); (case hg => rfl); (case hr => first | (go_simp; done) | (go_simp; rfl)); intro gb332 hg w25 hbox hb; have n_ : _ ∧ _ ∧ _ ∧ _ ∧ _ ∧ _ ∧ _ := ⟨zk BK331 hb, zbs hb, Aside0.mk (hbox), zg HB hg, zg HB hg, zn1 BK331 hg, zn2 BK331 hg⟩; clear BK331 HB; obtain ⟨BK331, HB, BK332, GW332, GE332, NB331_332, NB332_331⟩ := n_; clear hb hbox hg; have hnb26 := NB331_332.out; have hnc26 := NB332_331.out; obtain ⟨z27_0, z27_1, z27_2, y27_0, y27_1, y27_2⟩ := zB3 BK331; obtain ⟨z28_0, z28_1, z28_2, y28_0, y28_1, y28_2⟩ := zB3 BK332))
  go_ret
  exact ⟨by first | rfl | (simp [errW_none, errW_some] <;> rfl) | (simp [*, errW_none, errW_some] <;> rfl), by repeat (first | (with_reducible first | exact HB.out | apply below_alloc | apply pw_below_drewN | apply below_drew1 | refine below_set ?_ GE331.out | refine below_set ?_ GE332.out) | exact HB.out)⟩
 rw [if_pos c3] at H
 have c3b0 : (a0_0 == a1_0) = true := beq_iff_eq.mpr c3
 have c3b1 : (a0_0 != a1_0) = false := bne_eq_false_iff_eq.mpr c3
 clear c3
 by_cases c4 : a0_1 = a1_1
 rotate_left
 ·rw [if_neg c4] at H
  have c4b0 : (a0_1 == a1_1) = false := beq_eq_false_iff_ne.mpr c4
  have c4b1 : (a0_1 != a1_1) = true := bne_iff_ne.mpr c4
  obtain rfl := Option.some.inj H
  go_enter Try.func44, Try.ntmps44
  go_wp2_with (first | ((with_reducible refine gate_dst (N := 2) rfl ?_); refine box_event ?hg (N := 2) ?hd (cs := #[.int .i8 a0_0, .int .i8 a0_1, .slice A0_2 l0_2.length c0_2]) (t := 37) ?hr ?_; (case hd => rfl); (case hg => rfl); (case hr => first | (go_simp; done) | (go_simp; rfl)); intro gb331 hg w19 hbox hb; have n_ : _ ∧ _ ∧ _ ∧ _ := ⟨zb HB hb, Aside0.mk (hbox), zg HB hg, zg HB hg⟩; clear HB; obtain ⟨HB, BK331, GW331, GE331⟩ := n_; clear hb hbox hg) | ((with_reducible refine gate_dst (N := 3) rfl ?_); refine box_event ?hg (N := 3) ?hd (cs := #[.int .i8 a1_0, .int .i8 a1_1, .slice A1_2 l1_2.length c1_2]) (t := 37) ?hr ?_; (case hd => rfl); (case hg => rfl); (case hr => first | (go_simp; done) | (go_simp; rfl)); intro gb332 hg w20 hbox hb; have n_ : _ ∧ _ ∧ _ ∧ _ ∧ _ ∧ _ ∧ _ := ⟨zk BK331 hb, zbs hb, Aside0.mk (hbox), zg HB hg, zg HB hg, zn1 BK331 hg, zn2 BK331 hg⟩; clear BK331 HB; obtain ⟨BK331, HB, BK332, GW332, GE332, NB331_332, NB332_331⟩ := n_; clear hb hbox hg; have hnb21 := NB331_332.out; have hnc21 := NB332_331.out; obtain ⟨z22_0, z22_1, z22_2, y22_0, y22_1, y22_2⟩ := zB3 BK331; obtain ⟨z23_0, z23_1, z23_2, y23_0, y23_1, y23_2⟩ := zB3 BK332))
  go_ret
  exact ⟨by first | rfl | (simp [errW_none, errW_some] <;> rfl) | (simp [*, errW_none, errW_some] <;> rfl), by repeat (first | (with_reducible first | exact HB.out | apply below_alloc | apply pw_below_drewN | apply below_drew1 | refine below_set ?_ GE331.out | refine below_set ?_ GE332.out) | exact HB.out)⟩
 rw [if_pos c4] at H
 have c4b0 : (a0_1 == a1_1) = true := beq_iff_eq.mpr c4
 have c4b1 : (a0_1 != a1_1) = false := bne_eq_false_iff_eq.mpr c4
 clear c4
 replace H := Option.bind_eq_some_iff.mp H
 obtain ⟨t333, A50, H⟩ := H
 replace H : (if t333 = true then (some true) else (some false)) = some r := H
 have A5 := Aside0.mk A50
 clear A50
 by_cases c6 : t333 = true
 ·subst c6
  have H1 : (some true) = some r := by rw [if_pos rfl] at H; exact H
  clear H
  have H := H1
  clear H1
  obtain rfl := Option.some.inj H
  go_enter Try.func44, Try.ntmps44
  go_wp2_with (first | ((with_reducible refine gate_dst (N := 2) rfl ?_); refine box_event ?hg (N := 2) ?hd (cs := #[.int .i8 a0_0, .int .i8 a0_1, .slice A0_2 l0_2.length c0_2]) (t := 37) ?hr ?_; (case hd => rfl); (case hg => rfl); (case hr => first | (go_simp; done) | (go_simp; rfl)); intro gb331 hg w7 hbox hb; have n_ : _ ∧ _ ∧ _ ∧ _ := ⟨zb HB hb, Aside0.mk (hbox), zg HB hg, zg HB hg⟩; clear HB; obtain ⟨HB, BK331, GW331, GE331⟩ := n_; clear hb hbox hg) | ((with_reducible refine gate_dst (N := 3) rfl ?_); refine box_event ?hg (N := 3) ?hd (cs := #[.int .i8 a1_0, .int .i8 a1_1, .slice A1_2 l1_2.length c1_2]) (t := 37) ?hr ?_; (case hd => rfl); (case hg => rfl); (case hr => first | (go_simp; done) | (go_simp; rfl)); intro gb332 hg w8 hbox hb; have n_ : _ ∧ _ ∧ _ ∧ _ ∧ _ ∧ _ ∧ _ := ⟨zk BK331 hb, zbs hb, Aside0.mk (hbox), zg HB hg, zg HB hg, zn1 BK331 hg, zn2 BK331 hg⟩; clear BK331 HB; obtain ⟨BK331, HB, BK332, GW332, GE332, NB331_332, NB332_331⟩ := n_; clear hb hbox hg; have hnb9 := NB331_332.out; have hnc9 := NB332_331.out; obtain ⟨z10_0, z10_1, z10_2, y10_0, y10_1, y10_2⟩ := zB3 BK331; obtain ⟨z11_0, z11_1, z11_2, y11_0, y11_1, y11_2⟩ := zB3 BK332) | ((with_reducible refine gate_callee (f := 110) rfl ?_); refine goesL_ (some 19) rfl rfl Try.func110 (by kernel_rfl) rfl #[.slice A0_2 l0_2.length c0_2, .slice A1_2 l1_2.length c1_2] rfl (by (try simp only [List.map_toArray, List.map_cons, List.map_nil]); first | done | rfl | (simp only [List.length_drop, List.length_take]; rfl)) ?_; (with_reducible refine (laws_eqPieceS.calls k _ _ l0_2 _ _ l1_2 true _ ?side1 ?side2 ?side3 ?side4 A5.out).mono ?_); (case side1 => exact zcc HB HR0_2.out); (case side2 => exact HC0_2.out); (case side3 => exact zcc HB HR1_2.out); (case side4 => exact HC1_2.out); rintro e w12 ⟨rfl, hb⟩; refine ⟨_, rfl, ?_⟩; have n_ : _ ∧ _ ∧ _ := ⟨zk BK331 hb, zk BK332 hb, zbs hb⟩; clear BK331 BK332 HB; obtain ⟨BK331, BK332, HB⟩ := n_; (try clear hb); (try clear hb2); (try clear hk); (try clear hi)))
  go_ret
  exact ⟨by first | rfl | (simp [errW_none, errW_some] <;> rfl) | (simp [*, errW_none, errW_some] <;> rfl), by repeat (first | (with_reducible first | exact HB.out | apply below_alloc | apply pw_below_drewN | apply below_drew1 | refine below_set ?_ GE331.out | refine below_set ?_ GE332.out) | exact HB.out)⟩
 replace c6 := Bool.eq_false_iff.mpr c6
 subst c6
 have H1 : (some false) = some r := by rw [if_neg (show ¬ (false = true) by decide)] at H; exact H
 clear H
 have H := H1
 clear H1
 obtain rfl := Option.some.inj H
 go_enter Try.func44, Try.ntmps44
 go_wp2_with (first | ((with_reducible refine gate_dst (N := 2) rfl ?_); refine box_event ?hg (N := 2) ?hd (cs := #[.int .i8 a0_0, .int .i8 a0_1, .slice A0_2 l0_2.length c0_2]) (t := 37) ?hr ?_; (case hd => rfl); (case hg => rfl); (case hr => first | (go_simp; done) | (go_simp; rfl)); intro gb331 hg w13 hbox hb; have n_ : _ ∧ _ ∧ _ ∧ _ := ⟨zb HB hb, Aside0.mk (hbox), zg HB hg, zg HB hg⟩; clear HB; obtain ⟨HB, BK331, GW331, GE331⟩ := n_; clear hb hbox hg) | ((with_reducible refine gate_dst (N := 3) rfl ?_); refine box_event ?hg (N := 3) ?hd (cs := #[.int .i8 a1_0, .int .i8 a1_1, .slice A1_2 l1_2.length c1_2]) (t := 37) ?hr ?_; (case hd => rfl); (case hg => rfl); (case hr => first | (go_simp; done) | (go_simp; rfl)); intro gb332 hg w14 hbox hb; have n_ : _ ∧ _ ∧ _ ∧ _ ∧ _ ∧ _ ∧ _ := ⟨zk BK331 hb, zbs hb, Aside0.mk (hbox), zg HB hg, zg HB hg, zn1 BK331 hg, zn2 BK331 hg⟩; clear BK331 HB; obtain ⟨BK331, HB, BK332, GW332, GE332, NB331_332, NB332_331⟩ := n_; clear hb hbox hg; have hnb15 := NB331_332.out; have hnc15 := NB332_331.out; obtain ⟨z16_0, z16_1, z16_2, y16_0, y16_1, y16_2⟩ := zB3 BK331; obtain ⟨z17_0, z17_1, z17_2, y17_0, y17_1, y17_2⟩ := zB3 BK332) | ((with_reducible refine gate_callee (f := 110) rfl ?_); refine goesL_ (some 19) rfl rfl Try.func110 (by kernel_rfl) rfl #[.slice A0_2 l0_2.length c0_2, .slice A1_2 l1_2.length c1_2] rfl (by (try simp only [List.map_toArray, List.map_cons, List.map_nil]); first | done | rfl | (simp only [List.length_drop, List.length_take]; rfl)) ?_; (with_reducible refine (laws_eqPieceS.calls k _ _ l0_2 _ _ l1_2 false _ ?side1 ?side2 ?side3 ?side4 A5.out).mono ?_); (case side1 => exact zcc HB HR0_2.out); (case side2 => exact HC0_2.out); (case side3 => exact zcc HB HR1_2.out); (case side4 => exact HC1_2.out); rintro e w18 ⟨rfl, hb⟩; refine ⟨_, rfl, ?_⟩; have n_ : _ ∧ _ ∧ _ := ⟨zk BK331 hb, zk BK332 hb, zbs hb⟩; clear BK331 BK332 HB; obtain ⟨BK331, BK332, HB⟩ := n_; (try clear hb); (try clear hb2); (try clear hk); (try clear hi)))
 go_ret
 exact ⟨by first | rfl | (simp [errW_none, errW_some] <;> rfl) | (simp [*, errW_none, errW_some] <;> rfl), by repeat (first | (with_reducible first | exact HB.out | apply below_alloc | apply pw_below_drewN | apply below_drew1 | refine below_set ?_ GE331.out | refine below_set ?_ GE332.out) | exact HB.out)⟩
/-! ### laws_eqPort: function 160 -/
def laws_eqPort.f (k : Nat) (a0_0 : Int) (a0_1 : Int) (a0_2 : Int) (a1_0 : Int) (a1_1 : Int) (a1_2 : Int) : Option (Bool) := (laws_eqCell.f k a0_0 a0_1 a1_0 a1_1).bind fun t336 => (if t336 = true then (if a0_2 = a1_2 then (some true) else (some false)) else (some false))
theorem laws_eqPort.mono : ∀ a0 a1 a2 a3 a4 a5 k, LeO (laws_eqPort.f k a0 a1 a2 a3 a4 a5) (laws_eqPort.f (k + 1) a0 a1 a2 a3 a4 a5) := by
 intro a0 a1 a2 a3 a4 a5 k
 unfold laws_eqPort.f
 repeat' first | (with_reducible first | apply laws_eqCell.mono | exact LeO.refl _ | exact LeO.none _ | refine LeO.ite ?_ ?_ | refine LeO.bind ?_ (fun _ => ?_)) | apply laws_eqCell.mono | exact LeO.none _ | refine LeO.ite ?_ ?_ | refine LeO.bind ?_ (fun _ => ?_)
set_option maxHeartbeats 8000000 in
set_option maxRecDepth 100000 in
theorem laws_eqPort.calls (k : Nat) (a0_0 : Int) (a0_1 : Int) (a0_2 : Int) (a1_0 : Int) (a1_1 : Int) (a1_2 : Int) (r : Bool) (w : World) (h : laws_eqPort.f k a0_0 a0_1 a0_2 a1_0 a1_1 a1_2 = some r) :
    Calls Try.prog 160 #[.agg #[.int .i8 a0_0, .int .i8 a0_1, .int .i8 a0_2], .agg #[.int .i8 a1_0, .int .i8 a1_1, .int .i8 a1_2]] w fun e w' => e = .returned (.bool r) ∧ Below w.heap.size w w' := by
 have hu116 := Try.underlying116
 have hu74 := Try.underlying74
 have HB := Aside0.mk (Below.refl w.heap.size w)
 have H : ((laws_eqCell.f k a0_0 a0_1 a1_0 a1_1).bind fun t336 => (if t336 = true then (if a0_2 = a1_2 then (some true) else (some false)) else (some false))) = some r := h
 clear h
 replace H := Option.bind_eq_some_iff.mp H
 obtain ⟨t336, A30, H⟩ := H
 replace H : (if t336 = true then (if a0_2 = a1_2 then (some true) else (some false)) else (some false)) = some r := H
 have A3 := Aside0.mk A30
 clear A30
 by_cases c4 : t336 = true
 rotate_left
 ·replace c4 := Bool.eq_false_iff.mpr c4
  subst c4
  have H1 : (some false) = some r := by rw [if_neg (show ¬ (false = true) by decide)] at H; exact H
  clear H
  have H := H1
  clear H1
  obtain rfl := Option.some.inj H
  go_enter Try.func160, Try.ntmps160
  go_wp2_with (first | ((with_reducible refine gate_dst (N := 2) rfl ?_); refine box_event ?hg (N := 2) ?hd (cs := #[.int .i8 a0_0, .int .i8 a0_1, .int .i8 a0_2]) (t := 116) ?hr ?_; (case hd => rfl); (case hg => rfl); (case hr => first | (go_simp; done) | (go_simp; rfl)); intro gb334 hg w22 hbox hb; have n_ : _ ∧ _ ∧ _ ∧ _ := ⟨zb HB hb, Aside0.mk (hbox), zg HB hg, zg HB hg⟩; clear HB; obtain ⟨HB, BK334, GW334, GE334⟩ := n_; clear hb hbox hg) | ((with_reducible refine gate_dst (N := 3) rfl ?_); refine box_event ?hg (N := 3) ?hd (cs := #[.int .i8 a1_0, .int .i8 a1_1, .int .i8 a1_2]) (t := 116) ?hr ?_; (case hd => rfl); (case hg => rfl); (case hr => first | (go_simp; done) | (go_simp; rfl)); intro gb335 hg w23 hbox hb; have n_ : _ ∧ _ ∧ _ ∧ _ ∧ _ ∧ _ ∧ _ := ⟨zk BK334 hb, zbs hb, Aside0.mk (hbox), zg HB hg, zg HB hg, zn1 BK334 hg, zn2 BK334 hg⟩; clear BK334 HB; obtain ⟨BK334, HB, BK335, GW335, GE335, NB334_335, NB335_334⟩ := n_; clear hb hbox hg; have hnb24 := NB334_335.out; have hnc24 := NB335_334.out; obtain ⟨z25_0, z25_1, z25_2, y25_0, y25_1, y25_2⟩ := zB3 BK334; obtain ⟨z26_0, z26_1, z26_2, y26_0, y26_1, y26_2⟩ := zB3 BK335) | ((with_reducible refine gate_callee (f := 159) rfl ?_); refine goesL_ (some 9) rfl rfl Try.func159 (by kernel_rfl) rfl #[.agg #[.int .i8 a0_0, .int .i8 a0_1], .agg #[.int .i8 a1_0, .int .i8 a1_1]] rfl (by (try simp only [List.map_toArray, List.map_cons, List.map_nil]); first | done | rfl | (simp only [List.length_drop, List.length_take]; rfl)) ?_; (with_reducible refine (laws_eqCell.calls k a0_0 a0_1 a1_0 a1_1 false _ A3.out).mono ?_); rintro e w27 ⟨rfl, hb⟩; refine ⟨_, rfl, ?_⟩; have n_ : _ ∧ _ ∧ _ := ⟨zk BK334 hb, zk BK335 hb, zbs hb⟩; clear BK334 BK335 HB; obtain ⟨BK334, BK335, HB⟩ := n_; (try clear hb); (try clear hb2); (try clear hk); (try clear hi)))
  go_ret
  exact ⟨by first | rfl | (simp [errW_none, errW_some] <;> rfl) | (simp [*, errW_none, errW_some] <;> rfl), by repeat (first | (with_reducible first | exact HB.out | apply below_alloc | apply pw_below_drewN | apply below_drew1 | refine below_set ?_ GE334.out | refine below_set ?_ GE335.out) | exact HB.out)⟩
 subst c4
 have H1 : (if a0_2 = a1_2 then (some true) else (some false)) = some r := by rw [if_pos rfl] at H; exact H
 clear H
 have H := H1
 clear H1
 by_cases c5 : a0_2 = a1_2
 ·rw [if_pos c5] at H
  have c5b0 : (a0_2 == a1_2) = true := beq_iff_eq.mpr c5
  have c5b1 : (a0_2 != a1_2) = false := bne_eq_false_iff_eq.mpr c5
  clear c5
  obtain rfl := Option.some.inj H
  go_enter Try.func160, Try.ntmps160
  go_wp2_with (first | ((with_reducible refine gate_dst (N := 2) rfl ?_); refine box_event ?hg (N := 2) ?hd (cs := #[.int .i8 a0_0, .int .i8 a0_1, .int .i8 a0_2]) (t := 116) ?hr ?_; (case hd => rfl); (case hg => rfl); (case hr => first | (go_simp; done) | (go_simp; rfl)); intro gb334 hg w6 hbox hb; have n_ : _ ∧ _ ∧ _ ∧ _ := ⟨zb HB hb, Aside0.mk (hbox), zg HB hg, zg HB hg⟩; clear HB; obtain ⟨HB, BK334, GW334, GE334⟩ := n_; clear hb hbox hg) | ((with_reducible refine gate_dst (N := 3) rfl ?_); refine box_event ?hg (N := 3) ?hd (cs := #[.int .i8 a1_0, .int .i8 a1_1, .int .i8 a1_2]) (t := 116) ?hr ?_; (case hd => rfl); (case hg => rfl); (case hr => first | (go_simp; done) | (go_simp; rfl)); intro gb335 hg w7 hbox hb; have n_ : _ ∧ _ ∧ _ ∧ _ ∧ _ ∧ _ ∧ _ := ⟨zk BK334 hb, zbs hb, Aside0.mk (hbox), zg HB hg, zg HB hg, zn1 BK334 hg, zn2 BK334 hg⟩; clear BK334 HB; obtain ⟨BK334, HB, BK335, GW335, GE335, NB334_335, NB335_334⟩ := n_; clear hb hbox hg; have hnb8 := NB334_335.out; have hnc8 := NB335_334.out; obtain ⟨z9_0, z9_1, z9_2, y9_0, y9_1, y9_2⟩ := zB3 BK334; obtain ⟨z10_0, z10_1, z10_2, y10_0, y10_1, y10_2⟩ := zB3 BK335) | ((with_reducible refine gate_callee (f := 159) rfl ?_); refine goesL_ (some 9) rfl rfl Try.func159 (by kernel_rfl) rfl #[.agg #[.int .i8 a0_0, .int .i8 a0_1], .agg #[.int .i8 a1_0, .int .i8 a1_1]] rfl (by (try simp only [List.map_toArray, List.map_cons, List.map_nil]); first | done | rfl | (simp only [List.length_drop, List.length_take]; rfl)) ?_; (with_reducible refine (laws_eqCell.calls k a0_0 a0_1 a1_0 a1_1 true _ A3.out).mono ?_); rintro e w11 ⟨rfl, hb⟩; refine ⟨_, rfl, ?_⟩; have n_ : _ ∧ _ ∧ _ := ⟨zk BK334 hb, zk BK335 hb, zbs hb⟩; clear BK334 BK335 HB; obtain ⟨BK334, BK335, HB⟩ := n_; (try clear hb); (try clear hb2); (try clear hk); (try clear hi); obtain ⟨z12_0, z12_1, z12_2, y12_0, y12_1, y12_2⟩ := zB3 BK334; obtain ⟨z13_0, z13_1, z13_2, y13_0, y13_1, y13_2⟩ := zB3 BK335))
  go_ret
  exact ⟨by first | rfl | (simp [errW_none, errW_some] <;> rfl) | (simp [*, errW_none, errW_some] <;> rfl), by repeat (first | (with_reducible first | exact HB.out | apply below_alloc | apply pw_below_drewN | apply below_drew1 | refine below_set ?_ GE334.out | refine below_set ?_ GE335.out) | exact HB.out)⟩
 rw [if_neg c5] at H
 have c5b0 : (a0_2 == a1_2) = false := beq_eq_false_iff_ne.mpr c5
 have c5b1 : (a0_2 != a1_2) = true := bne_iff_ne.mpr c5
 obtain rfl := Option.some.inj H
 go_enter Try.func160, Try.ntmps160
 go_wp2_with (first | ((with_reducible refine gate_dst (N := 2) rfl ?_); refine box_event ?hg (N := 2) ?hd (cs := #[.int .i8 a0_0, .int .i8 a0_1, .int .i8 a0_2]) (t := 116) ?hr ?_; (case hd => rfl); (case hg => rfl); (case hr => first | (go_simp; done) | (go_simp; rfl)); intro gb334 hg w14 hbox hb; have n_ : _ ∧ _ ∧ _ ∧ _ := ⟨zb HB hb, Aside0.mk (hbox), zg HB hg, zg HB hg⟩; clear HB; obtain ⟨HB, BK334, GW334, GE334⟩ := n_; clear hb hbox hg) | ((with_reducible refine gate_dst (N := 3) rfl ?_); refine box_event ?hg (N := 3) ?hd (cs := #[.int .i8 a1_0, .int .i8 a1_1, .int .i8 a1_2]) (t := 116) ?hr ?_; (case hd => rfl); (case hg => rfl); (case hr => first | (go_simp; done) | (go_simp; rfl)); intro gb335 hg w15 hbox hb; have n_ : _ ∧ _ ∧ _ ∧ _ ∧ _ ∧ _ ∧ _ := ⟨zk BK334 hb, zbs hb, Aside0.mk (hbox), zg HB hg, zg HB hg, zn1 BK334 hg, zn2 BK334 hg⟩; clear BK334 HB; obtain ⟨BK334, HB, BK335, GW335, GE335, NB334_335, NB335_334⟩ := n_; clear hb hbox hg; have hnb16 := NB334_335.out; have hnc16 := NB335_334.out; obtain ⟨z17_0, z17_1, z17_2, y17_0, y17_1, y17_2⟩ := zB3 BK334; obtain ⟨z18_0, z18_1, z18_2, y18_0, y18_1, y18_2⟩ := zB3 BK335) | ((with_reducible refine gate_callee (f := 159) rfl ?_); refine goesL_ (some 9) rfl rfl Try.func159 (by kernel_rfl) rfl #[.agg #[.int .i8 a0_0, .int .i8 a0_1], .agg #[.int .i8 a1_0, .int .i8 a1_1]] rfl (by (try simp only [List.map_toArray, List.map_cons, List.map_nil]); first | done | rfl | (simp only [List.length_drop, List.length_take]; rfl)) ?_; (with_reducible refine (laws_eqCell.calls k a0_0 a0_1 a1_0 a1_1 true _ A3.out).mono ?_); rintro e w19 ⟨rfl, hb⟩; refine ⟨_, rfl, ?_⟩; have n_ : _ ∧ _ ∧ _ := ⟨zk BK334 hb, zk BK335 hb, zbs hb⟩; clear BK334 BK335 HB; obtain ⟨BK334, BK335, HB⟩ := n_; (try clear hb); (try clear hb2); (try clear hk); (try clear hi); obtain ⟨z20_0, z20_1, z20_2, y20_0, y20_1, y20_2⟩ := zB3 BK334; obtain ⟨z21_0, z21_1, z21_2, y21_0, y21_1, y21_2⟩ := zB3 BK335))
 go_ret
 exact ⟨by first | rfl | (simp [errW_none, errW_some] <;> rfl) | (simp [*, errW_none, errW_some] <;> rfl), by repeat (first | (with_reducible first | exact HB.out | apply below_alloc | apply pw_below_drewN | apply below_drew1 | refine below_set ?_ GE334.out | refine below_set ?_ GE335.out) | exact HB.out)⟩
end Go.Proofs.Ytffnfpnajkgnaaa.PFnExactPushesFor
