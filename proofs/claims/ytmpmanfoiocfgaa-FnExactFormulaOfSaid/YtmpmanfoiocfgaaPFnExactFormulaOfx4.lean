-- WRITTEN by xprint.py, a program of this session's. Not trusted: Lean checks it.
-- packed by pack.py
import Derived.Test.YtmpmanfoiocfgaaPFnExactFormulaOfx0
import Derived.Test.YtmpmanfoiocfgaaTFnExactFormulaOfa
namespace Go.Proofs.Ytmpmanfoiocfgaa.PFnExactFormulaOf
open Go.RowKit Go.Proofs.YtmpmanfoiocfgaaW.PrintWords Go.Proofs.YtmpmanfoiocfgaaW.PrintLast Go.Proofs.YtmpmanfoiocfgaaW.PrintMore Go.Proofs.YtmpmanfoiocfgaaX
attribute [local go_sem] max2_int min2_int max_two min_two max_three min_three max_four min_four   -- for this text's walks alone
set_option maxHeartbeats 8000000
set_option maxRecDepth 100000
set_option linter.unusedVariables false
set_option linter.unusedSimpArgs false

def spec_l00Min.f (a0 : Int) (a1 : Int) : Option (Int) := if a0 < a1 then (some a0) else (some a1)
theorem spec_l00Min.calls (a0 : Int) (a1 : Int) (r : Int) (w : World) (h : spec_l00Min.f a0 a1 = some r) :
    Calls Try.prog 127 #[.int .i64 a0, .int .i64 a1] w fun e w' => e = .returned (.int .i64 r) ∧ Drawn0 w w' := by
 have H : (if a0 < a1 then (some a0) else (some a1)) = some r := h
 clear h
 by_cases c3 : a0 < a1
 ·rw [if_pos c3] at H
  have c3b0 : decide (a0 < a1) = true := decide_eq_true c3
  clear c3
  obtain rfl := Option.some.inj H
  go_enter Try.func127, Try.ntmps127
  go_wp2
  go_ret
  exact ⟨zi, zdr⟩
 rw [if_neg c3] at H
 have c3b0 : decide (a0 < a1) = false := decide_eq_false c3
 clear c3
 obtain rfl := Option.some.inj H
 go_enter Try.func127, Try.ntmps127
 go_wp2
 go_ret
 exact ⟨zi, zdr⟩
def spec_l04Long.l0 : Nat → List (S31) → List Int → Int → Option (List Int)
  | 0, _, _, _ => none
  | k + 1, x0, x3, x4 => if 0 < (x0.length : Int) then (if x4 < (((rd_T31 x0 0).f1).length : Int) then (if 0 ≤ x4 then (if ((rd_T81 ((rd_T31 x0 0).f1) x4).f0) ≥ 2 then (if 0 ≤ ((rd_T81 ((rd_T31 x0 0).f1) x4).f1) then (if ((rd_T81 ((rd_T31 x0 0).f1) x4).f1) < (x3.length : Int) then (if 0 ≤ ((rd_T81 ((rd_T31 x0 0).f1) x4).f2) then (if ((rd_T81 ((rd_T31 x0 0).f1) x4).f2) < (x3.length : Int) then ((spec_l00Min.f 201 (wrap64 ((wrap64 (3 + (rd x3 ((rd_T81 ((rd_T31 x0 0).f1) x4).f1)))) + (rd x3 ((rd_T81 ((rd_T31 x0 0).f1) x4).f2))))).bind fun t167 => (if x3.length < 17592186044416 then (spec_l04Long.l0 k x0 (x3 ++ [t167]) (wrap64 (x4 + 1))) else (none))) else (none)) else (none)) else (none)) else (none)) else (if x3.length < 17592186044416 then (spec_l04Long.l0 k x0 (x3 ++ [1]) (wrap64 (x4 + 1))) else (none))) else (none)) else (some x3)) else (none)
def spec_l04Long.f (k : Nat) (l0 : List (S31)) : Option (List Int) := spec_l04Long.l0 k l0 (([] : List Int)) 0
theorem spec_l04Long.mono_l : ∀ k, (∀ y0 y1 y2, LeO (spec_l04Long.l0 k y0 y1 y2) (spec_l04Long.l0 (k + 1) y0 y1 y2))
  | 0 => fun _ _ _ r h => by simp [spec_l04Long.l0] at h
  | k + 1 => by
    have ih0 := spec_l04Long.mono_l k
    · intro y0 y1 y2
      unfold spec_l04Long.l0
      repeat' first | (with_reducible first | apply ih0 | exact LeO.refl _ | exact LeO.none _ | refine LeO.ite ?_ ?_ | refine LeO.bind ?_ (fun _ => ?_)) | apply ih0 | exact LeO.none _ | refine LeO.ite ?_ ?_ | refine LeO.bind ?_ (fun _ => ?_)
theorem spec_l04Long.mono : ∀ a0 k, LeO (spec_l04Long.f k a0) (spec_l04Long.f (k + 1) a0) := by
 intro a0 k
 have ih0 := spec_l04Long.mono_l k
 unfold spec_l04Long.f
 repeat' first | (with_reducible first | apply ih0 | exact LeO.refl _ | exact LeO.none _ | refine LeO.ite ?_ ?_ | refine LeO.bind ?_ (fun _ => ?_)) | apply ih0 | exact LeO.none _ | refine LeO.ite ?_ ?_ | refine LeO.bind ?_ (fun _ => ?_)
theorem spec_l04Long.calls (k : Nat) (adp0 : Addr) (l0 : List (S31)) (r : List Int) (w : World) (hr0 : Kd.C k31 w (some adp0) l0.length l0) (h : spec_l04Long.f k l0 = some r) :
    Calls Try.prog 88 #[.pointer (some adp0)] w fun e w' => ∃ v0_ : Value, e = .returned (v0_) ∧ Kd.R (Kd.int .i64) 2 w' w.heap.size (fun _ => True) v0_ r ∧ Below w.heap.size w w' := by
 have hu81 := Try.underlying81
 have HR0 := Aside0.mk hr0
 clear hr0
 have HB := Aside0.mk (Below.refl w.heap.size w)
 have H : (spec_l04Long.l0 k l0 (([] : List Int)) 0) = some r := h
 clear h
 obtain ⟨y158, hy158⟩ : ∃ y_ : List Int, y_ = (([] : List Int)) := ⟨_, rfl⟩
 replace H : (spec_l04Long.l0 k l0 y158 0) = some r := by first | (rw [hy158]; with_reducible exact H) | (have H2_ := (Option.bind_some _ _).symm.trans H; rw [hy158]; with_reducible exact H2_) | (have H2_ := (Option.bind_some _ _).symm.trans H; with_reducible exact H2_) | with_reducible exact H | (rw [hy158]; exact H) | exact H
 have Ny158 := Aside0.mk hy158
 clear hy158
 have H' := Aside0.mk H
 clear H
 go_enter Try.func88, Try.ntmps88
 go_wp2_with (first | ((with_reducible refine gate_dst (N := 7) rfl ?_); refine Kd.R_lit (Kd.int .i64) _ 2 ?hg (N := 7) ?hd (xs := ([] : List Int)) (inner := []) (ok := fun _ => True) (okp := fun _ => True) ?hr ?hp (fun _ hk => hk) trivial (Below.refl _ _) (Nat.le_refl _) (by simp) ?_; (case hd => rfl); (case hg => rfl); (case hr => exact zgs); (case hp => exact (Reps.none _ _)); intro v159 w2 ho3 hb hg_ hnew_; clear hg_ hnew_; (first | rw [← Ny158.out] at ho3 | (simp only [Int.reduceToNat] at ho3; rw [← Ny158.out] at ho3)); have n_ : _ ∧ _ := ⟨Aside0.mk (Kd.R_lower ho3 (zz HB)), zb HB hb⟩; clear HB; obtain ⟨HO160, HB⟩ := n_; clear hb ho3) | go_quiet (fail))
 go_loopg [3, 4] k (fun kq v3 v4 w' => ∃ (x3_1 : List Int) (x4_1 : Int), v4 = .int .i64 x4_1 ∧ Aside0 (spec_l04Long.l0 kq l0 x3_1 x4_1 = some r) ∧ Aside0 (kq ≤ k) ∧ Aside0 (Kd.R (Kd.int .i64) 2 w' w.heap.size (fun _ => True) v3 x3_1) ∧ Aside0 (Below w.heap.size w w'))
 case atStart => exact ⟨(y158), (0), zi, H', ⟨Nat.le_refl _⟩, ze HO160, zl HB⟩
 clear H'
 try clear p2
 obtain ⟨x3_1, x4_1, rfl, HA, HK1, HO_3, HB⟩ := hrel
 cases gk with
 | zero => exact absurd HA.out (by simp [spec_l04Long.l0])
 | succ k1 => ?_
 have H := HA.out
 clear HA
 simp only [spec_l04Long.l0] at H
 by_cases c4 : 0 < (l0.length : Int)
 rotate_left
 ·rw [if_neg c4] at H
  exact absurd H (by simp)
 rw [if_pos c4] at H
 have c4b0 : decide (0 < (l0.length : Int)) = true := decide_eq_true c4
 have c4b1 : decide (0 < l0.length) = true := decide_eq_true (by omega)
 clear c4
 by_cases c5 : x4_1 < (((rd_T31 l0 0).f1).length : Int)
 rotate_left
 ·rw [if_neg c5] at H
  have c5b0 : decide (x4_1 < (((rd_T31 l0 0).f1).length : Int)) = false := decide_eq_false c5
  clear c5
  obtain rfl := Option.some.inj H
  have p161 : 0 ≤ (0 : Int) := (by omega)
  have q161 : 0 < (l0.length : Int) := of_decide_eq_true zA
  obtain ⟨ad161, A161_1, c161_1, A161_2, c161_2, e161, hx161_0, hx161_1, hx161_2, hl161_1, hi161_1, hl161_2, hi161_2⟩ := at_T31 HR0.out 0 p161 q161
  obtain rfl : adp0 = ad161 := (by injection e161)
  have qi161 : (0 < l0.length) = True := eq_true (by omega)
  try simp only [z00, Nat.zero_mul, Addr.add_zero'] at hx161_0 hx161_1 hx161_2
  replace hx161_0 := zc HB hx161_0
  replace hx161_1 := zc HB hx161_1
  replace hx161_2 := zc HB hx161_2
  have HR161_1 := Aside0.mk hi161_1
  have HC161_1 := Aside0.mk hl161_1
  clear hi161_1 hl161_1
  have HR161_2 := Aside0.mk hi161_2
  have HC161_2 := Aside0.mk hl161_2
  clear hi161_2 hl161_2
  replace p161 := eq_true p161
  replace q161 := eq_true q161
  go_wp2
  repeat (go_quiet (fail); try go_wp2)
  go_ret
  exact ⟨_, zv, by (with_reducible repeat (first | apply Kd.R_alloc | apply Kd.R_drewN | apply Kd.R_drew)); exact HO_3.out, zbo⟩
 rw [if_pos c5] at H
 have c5b0 : decide (x4_1 < (((rd_T31 l0 0).f1).length : Int)) = true := decide_eq_true c5
 clear c5
 by_cases c6 : 0 ≤ x4_1
 rotate_left
 ·rw [if_neg c6] at H
  exact absurd H (by simp)
 rw [if_pos c6] at H
 have c6b0 : decide (0 ≤ x4_1) = true := decide_eq_true c6
 clear c6
 by_cases c7 : ((rd_T81 ((rd_T31 l0 0).f1) x4_1).f0) ≥ 2
 rotate_left
 ·rw [if_neg c7] at H
  have c7b0 : decide (2 ≤ ((rd_T81 ((rd_T31 l0 0).f1) x4_1).f0)) = false := decide_eq_false c7
  clear c7
  by_cases c18 : x3_1.length < 17592186044416
  rotate_left
  ·rw [if_neg c18] at H
   exact absurd H (by simp)
  rw [if_pos c18] at H
  have LMc18 := Aside0.mk c18
  clear c18
  obtain ⟨y171, hy171⟩ : ∃ y_ : List Int, y_ = (x3_1 ++ [1]) := ⟨_, rfl⟩
  replace H : (spec_l04Long.l0 k1 l0 y171 (wrap64 (x4_1 + 1))) = some r := by first | (rw [hy171]; with_reducible exact H) | (have H2_ := (Option.bind_some _ _).symm.trans H; rw [hy171]; with_reducible exact H2_) | (have H2_ := (Option.bind_some _ _).symm.trans H; with_reducible exact H2_) | with_reducible exact H | (rw [hy171]; exact H) | exact H
  have Ny171 := Aside0.mk hy171
  clear hy171
  have H' := Aside0.mk H
  clear H
  have p161 : 0 ≤ (0 : Int) := (by omega)
  have q161 : 0 < (l0.length : Int) := of_decide_eq_true zA
  obtain ⟨ad161, A161_1, c161_1, A161_2, c161_2, e161, hx161_0, hx161_1, hx161_2, hl161_1, hi161_1, hl161_2, hi161_2⟩ := at_T31 HR0.out 0 p161 q161
  obtain rfl : adp0 = ad161 := (by injection e161)
  have qi161 : (0 < l0.length) = True := eq_true (by omega)
  try simp only [z00, Nat.zero_mul, Addr.add_zero'] at hx161_0 hx161_1 hx161_2
  replace hx161_0 := zc HB hx161_0
  replace hx161_1 := zc HB hx161_1
  replace hx161_2 := zc HB hx161_2
  have HR161_1 := Aside0.mk hi161_1
  have HC161_1 := Aside0.mk hl161_1
  clear hi161_1 hl161_1
  have HR161_2 := Aside0.mk hi161_2
  have HC161_2 := Aside0.mk hl161_2
  clear hi161_2 hl161_2
  replace p161 := eq_true p161
  replace q161 := eq_true q161
  have p162 : 0 ≤ (0 : Int) := (by omega)
  have q162 : 0 < (l0.length : Int) := of_decide_eq_true zA
  obtain ⟨ad162, A162_1, c162_1, A162_2, c162_2, e162, hx162_0, hx162_1, hx162_2, hl162_1, hi162_1, hl162_2, hi162_2⟩ := at_T31 HR0.out 0 p162 q162
  obtain rfl : adp0 = ad162 := (by injection e162)
  have qi162 : (0 < l0.length) = True := eq_true (by omega)
  try simp only [z00, Nat.zero_mul, Addr.add_zero'] at hx162_0 hx162_1 hx162_2
  replace hx162_0 := zc HB hx162_0
  replace hx162_1 := zc HB hx162_1
  replace hx162_2 := zc HB hx162_2
  have HR162_1 := Aside0.mk hi162_1
  have HC162_1 := Aside0.mk hl162_1
  clear hi162_1 hl162_1
  have HR162_2 := Aside0.mk hi162_2
  have HC162_2 := Aside0.mk hl162_2
  clear hi162_2 hl162_2
  replace p162 := eq_true p162
  replace q162 := eq_true q162
  have ea_ := Option.some.inj (hx161_1.symm.trans hx162_1)
  injection ea_ with ea_ en_ ec_
  subst ea_
  subst ec_
  clear en_
  have ea_ := Option.some.inj (hx161_2.symm.trans hx162_2)
  injection ea_ with ea_ en_ ec_
  subst ea_
  subst ec_
  clear en_
  have p163 : 0 ≤ (x4_1 : Int) := of_decide_eq_true zA
  have q163 : x4_1 < (((rd_T31 l0 0).f1).length : Int) := of_decide_eq_true zA
  obtain ⟨ad163, e163, hx163_0, hx163_1, hx163_2⟩ := at_T81 HR162_1.out x4_1 p163 q163
  cases e163
  replace hx163_0 := zc HB hx163_0
  replace hx163_1 := zc HB hx163_1
  replace hx163_2 := zc HB hx163_2
  replace p163 := eq_true p163
  replace q163 := eq_true q163
  go_wp2_with (first | ((with_reducible refine gate_dst (N := 5) rfl ?_); refine zbx 5 #[.int .i8 0, .int .i16 0, .int .i16 0] 81 ?_; intro gb164 hg w19 hbox hb; have n_ : _ ∧ _ ∧ _ ∧ _ ∧ _ := ⟨zr HO_3 hb, zb HB hb, Aside0.mk (hbox), zg HB hg, zg HB hg⟩; clear HO_3 HB; obtain ⟨HO_3, HB, BK164, GW164, GE164⟩ := n_; clear hb hbox hg; obtain ⟨z20_0, z20_1, z20_2, y20_0, y20_1, y20_2⟩ := zB3 BK164) | ((with_reducible refine gate_builtin (b := .append) (xs := #[.tmp 40, .tmp 42]) rfl ?_); at_builtin; refine Kd.R_append (Kd.int .i64) (w0 := w) w.heap.size rfl (.tmp 40) (.tmp 42) 47 2 (.int .i64 0) 8 rfl Try.underlying47 info2 rfl (by decide) (by omega) u3 x3_1 1 [.int .i64 1] (fun _ => True) (fun _ => False) rfl (by first | (go_simp; done) | (go_simp; rfl)) ?aP (fun _ hk => hk.elim) ?aF ?aO ?aB ?aS ?aL ?_; (case aP => exact rfl); (case aB => exact zbo); (case aF => exact (fun _ _ => trivial)); (case aO => exact (Kd.R_mono (zs HO_3 BK164).out (fun _ hk => trivial))); (case aS => exact (zz HB)); (case aL => have := LMc18.out; omega); intro v172 w21 ho hb hg hat; rw [← Ny171.out] at ho; have n_ : _ ∧ _ ∧ _ := ⟨Aside0.mk (blk_grown (g := gb164) (o := .cells #[.int .i8 ((rd_T81 ((rd_T31 l0 0).f1) x4_1).f0), .int .i16 ((rd_T81 ((rd_T31 l0 0).f1) x4_1).f1), .int .i16 ((rd_T81 ((rd_T31 l0 0).f1) x4_1).f2)] 81 (0, 0)) (zp BK164) hg (Kd.R_ne HO_3.out BK164.out (by decide))), Aside0.mk (hb), Aside0.mk (ho)⟩; clear BK164 HB HO_3; obtain ⟨BK164, HB, HO173⟩ := n_; clear ho hb hg hat) | go_quiet (fail))
  go_roundg k1
  case measure => have := HK1.out; omega
  case rel => exact ⟨(y171), (wrap64 (x4_1 + 1)), zi, H', ⟨by have := HK1.out; omega⟩, ze HO173, zba⟩
 rw [if_pos c7] at H
 have c7b0 : decide (2 ≤ ((rd_T81 ((rd_T31 l0 0).f1) x4_1).f0)) = true := decide_eq_true c7
 clear c7
 by_cases c8 : 0 ≤ ((rd_T81 ((rd_T31 l0 0).f1) x4_1).f1)
 rotate_left
 ·rw [if_neg c8] at H
  exact absurd H (by simp)
 rw [if_pos c8] at H
 have c8b0 : decide (0 ≤ ((rd_T81 ((rd_T31 l0 0).f1) x4_1).f1)) = true := decide_eq_true c8
 clear c8
 by_cases c9 : ((rd_T81 ((rd_T31 l0 0).f1) x4_1).f1) < (x3_1.length : Int)
 rotate_left
 ·rw [if_neg c9] at H
  exact absurd H (by simp)
 rw [if_pos c9] at H
 have c9b0 : decide (((rd_T81 ((rd_T31 l0 0).f1) x4_1).f1) < (x3_1.length : Int)) = true := decide_eq_true c9
 clear c9
 by_cases c10 : 0 ≤ ((rd_T81 ((rd_T31 l0 0).f1) x4_1).f2)
 rotate_left
 ·rw [if_neg c10] at H
  exact absurd H (by simp)
 rw [if_pos c10] at H
 have c10b0 : decide (0 ≤ ((rd_T81 ((rd_T31 l0 0).f1) x4_1).f2)) = true := decide_eq_true c10
 clear c10
 by_cases c11 : ((rd_T81 ((rd_T31 l0 0).f1) x4_1).f2) < (x3_1.length : Int)
 rotate_left
 ·rw [if_neg c11] at H
  exact absurd H (by simp)
 rw [if_pos c11] at H
 have c11b0 : decide (((rd_T81 ((rd_T31 l0 0).f1) x4_1).f2) < (x3_1.length : Int)) = true := decide_eq_true c11
 clear c11
 replace H := zob H
 obtain ⟨t167, A120, H⟩ := H
 replace H : (if x3_1.length < 17592186044416 then (spec_l04Long.l0 k1 l0 (x3_1 ++ [t167]) (wrap64 (x4_1 + 1))) else (none)) = some r := H
 have A12 := Aside0.mk A120
 clear A120
 by_cases c13 : x3_1.length < 17592186044416
 rotate_left
 ·rw [if_neg c13] at H
  exact absurd H (by simp)
 rw [if_pos c13] at H
 have LMc13 := Aside0.mk c13
 clear c13
 obtain ⟨y168, hy168⟩ : ∃ y_ : List Int, y_ = (x3_1 ++ [t167]) := ⟨_, rfl⟩
 replace H : (spec_l04Long.l0 k1 l0 y168 (wrap64 (x4_1 + 1))) = some r := by first | (rw [hy168]; with_reducible exact H) | (have H2_ := (Option.bind_some _ _).symm.trans H; rw [hy168]; with_reducible exact H2_) | (have H2_ := (Option.bind_some _ _).symm.trans H; with_reducible exact H2_) | with_reducible exact H | (rw [hy168]; exact H) | exact H
 have Ny168 := Aside0.mk hy168
 clear hy168
 have H' := Aside0.mk H
 clear H
 have p161 : 0 ≤ (0 : Int) := (by omega)
 have q161 : 0 < (l0.length : Int) := of_decide_eq_true zA
 obtain ⟨ad161, A161_1, c161_1, A161_2, c161_2, e161, hx161_0, hx161_1, hx161_2, hl161_1, hi161_1, hl161_2, hi161_2⟩ := at_T31 HR0.out 0 p161 q161
 obtain rfl : adp0 = ad161 := (by injection e161)
 have qi161 : (0 < l0.length) = True := eq_true (by omega)
 try simp only [z00, Nat.zero_mul, Addr.add_zero'] at hx161_0 hx161_1 hx161_2
 replace hx161_0 := zc HB hx161_0
 replace hx161_1 := zc HB hx161_1
 replace hx161_2 := zc HB hx161_2
 have HR161_1 := Aside0.mk hi161_1
 have HC161_1 := Aside0.mk hl161_1
 clear hi161_1 hl161_1
 have HR161_2 := Aside0.mk hi161_2
 have HC161_2 := Aside0.mk hl161_2
 clear hi161_2 hl161_2
 replace p161 := eq_true p161
 replace q161 := eq_true q161
 have p162 : 0 ≤ (0 : Int) := (by omega)
 have q162 : 0 < (l0.length : Int) := of_decide_eq_true zA
 obtain ⟨ad162, A162_1, c162_1, A162_2, c162_2, e162, hx162_0, hx162_1, hx162_2, hl162_1, hi162_1, hl162_2, hi162_2⟩ := at_T31 HR0.out 0 p162 q162
 obtain rfl : adp0 = ad162 := (by injection e162)
 have qi162 : (0 < l0.length) = True := eq_true (by omega)
 try simp only [z00, Nat.zero_mul, Addr.add_zero'] at hx162_0 hx162_1 hx162_2
 replace hx162_0 := zc HB hx162_0
 replace hx162_1 := zc HB hx162_1
 replace hx162_2 := zc HB hx162_2
 have HR162_1 := Aside0.mk hi162_1
 have HC162_1 := Aside0.mk hl162_1
 clear hi162_1 hl162_1
 have HR162_2 := Aside0.mk hi162_2
 have HC162_2 := Aside0.mk hl162_2
 clear hi162_2 hl162_2
 replace p162 := eq_true p162
 replace q162 := eq_true q162
 have ea_ := Option.some.inj (hx161_1.symm.trans hx162_1)
 injection ea_ with ea_ en_ ec_
 subst ea_
 subst ec_
 clear en_
 have ea_ := Option.some.inj (hx161_2.symm.trans hx162_2)
 injection ea_ with ea_ en_ ec_
 subst ea_
 subst ec_
 clear en_
 have p163 : 0 ≤ (x4_1 : Int) := of_decide_eq_true zA
 have q163 : x4_1 < (((rd_T31 l0 0).f1).length : Int) := of_decide_eq_true zA
 obtain ⟨ad163, e163, hx163_0, hx163_1, hx163_2⟩ := at_T81 HR162_1.out x4_1 p163 q163
 cases e163
 replace hx163_0 := zc HB hx163_0
 replace hx163_1 := zc HB hx163_1
 replace hx163_2 := zc HB hx163_2
 replace p163 := eq_true p163
 replace q163 := eq_true q163
 go_wp2_with (first | ((with_reducible refine gate_dst (N := 5) rfl ?_); refine zbx 5 #[.int .i8 0, .int .i16 0, .int .i16 0] 81 ?_; intro gb164 hg w14 hbox hb; have n_ : _ ∧ _ ∧ _ ∧ _ ∧ _ := ⟨zr HO_3 hb, zb HB hb, Aside0.mk (hbox), zg HB hg, zg HB hg⟩; clear HO_3 HB; obtain ⟨HO_3, HB, BK164, GW164, GE164⟩ := n_; clear hb hbox hg; obtain ⟨z15_0, z15_1, z15_2, y15_0, y15_1, y15_2⟩ := zB3 BK164; obtain ⟨Ao16, co16, eo16⟩ := Kd.R_slice HO_3.out; subst eo16; have p165 : 0 ≤ (((rd_T81 ((rd_T31 l0 0).f1) x4_1).f1) : Int) := of_decide_eq_true zA; have q165 : ((rd_T81 ((rd_T31 l0 0).f1) x4_1).f1) < (x3_1.length : Int) := of_decide_eq_true zA; obtain ⟨ad165, e165, hx165_0⟩ := Kd.at_int (Kd.R_reads' HO_3.out).2.2 ((rd_T81 ((rd_T31 l0 0).f1) x4_1).f1) p165 q165; cases e165; have hn165_0 : ad165.block ≠ gb164 := Kd.own_blk (Kd.R_ne HO_3.out BK164.out (by decide)); have hn165_1 : ad165.block ≠ gb164 := Kd.own_blk (Kd.R_ne HO_3.out BK164.out (by decide)); have hn165_2 : ad165.block ≠ gb164 := Kd.own_blk (Kd.R_ne HO_3.out BK164.out (by decide)); replace hx165_0 := (cell_far (p := ⟨gb164, 0, none⟩) (by first | (rw [add_block]; exact hn165_0) | (show (Addr.add _ _).block ≠ _; rw [add_block]; exact hn165_0) | exact hn165_0) (.int .i8 ((rd_T81 ((rd_T31 l0 0).f1) x4_1).f0))).trans hx165_0; replace hx165_0 := (cell_far (p := ⟨gb164, 1, none⟩) (by first | (rw [add_block]; exact hn165_1) | (show (Addr.add _ _).block ≠ _; rw [add_block]; exact hn165_1) | exact hn165_1) (.int .i16 ((rd_T81 ((rd_T31 l0 0).f1) x4_1).f1))).trans hx165_0; replace hx165_0 := (cell_far (p := ⟨gb164, 2, none⟩) (by first | (rw [add_block]; exact hn165_2) | (show (Addr.add _ _).block ≠ _; rw [add_block]; exact hn165_2) | exact hn165_2) (.int .i16 ((rd_T81 ((rd_T31 l0 0).f1) x4_1).f2))).trans hx165_0; (try have hy165_0 := fun (n_ : Nat) => (show (((((w14.drewN n_).setCell ⟨gb164, 0, none⟩ (.int .i8 ((rd_T81 ((rd_T31 l0 0).f1) x4_1).f0))).setCell ⟨gb164, 1, none⟩ (.int .i16 ((rd_T81 ((rd_T31 l0 0).f1) x4_1).f1))).setCell ⟨gb164, 2, none⟩ (.int .i16 ((rd_T81 ((rd_T31 l0 0).f1) x4_1).f2)))).cell? _ = some _ from hx165_0)); clear hn165_0; clear hn165_1; clear hn165_2; replace p165 := eq_true p165; replace q165 := eq_true q165; have p166 : 0 ≤ (((rd_T81 ((rd_T31 l0 0).f1) x4_1).f2) : Int) := of_decide_eq_true zA; have q166 : ((rd_T81 ((rd_T31 l0 0).f1) x4_1).f2) < (x3_1.length : Int) := of_decide_eq_true zA; obtain ⟨ad166, e166, hx166_0⟩ := Kd.at_int (Kd.R_reads' HO_3.out).2.2 ((rd_T81 ((rd_T31 l0 0).f1) x4_1).f2) p166 q166; obtain rfl : ad165 = ad166 := (by injection e166); have hn166_0 : ad165.block ≠ gb164 := Kd.own_blk (Kd.R_ne HO_3.out BK164.out (by decide)); have hn166_1 : ad165.block ≠ gb164 := Kd.own_blk (Kd.R_ne HO_3.out BK164.out (by decide)); have hn166_2 : ad165.block ≠ gb164 := Kd.own_blk (Kd.R_ne HO_3.out BK164.out (by decide)); replace hx166_0 := (cell_far (p := ⟨gb164, 0, none⟩) (by first | (rw [add_block]; exact hn166_0) | (show (Addr.add _ _).block ≠ _; rw [add_block]; exact hn166_0) | exact hn166_0) (.int .i8 ((rd_T81 ((rd_T31 l0 0).f1) x4_1).f0))).trans hx166_0; replace hx166_0 := (cell_far (p := ⟨gb164, 1, none⟩) (by first | (rw [add_block]; exact hn166_1) | (show (Addr.add _ _).block ≠ _; rw [add_block]; exact hn166_1) | exact hn166_1) (.int .i16 ((rd_T81 ((rd_T31 l0 0).f1) x4_1).f1))).trans hx166_0; replace hx166_0 := (cell_far (p := ⟨gb164, 2, none⟩) (by first | (rw [add_block]; exact hn166_2) | (show (Addr.add _ _).block ≠ _; rw [add_block]; exact hn166_2) | exact hn166_2) (.int .i16 ((rd_T81 ((rd_T31 l0 0).f1) x4_1).f2))).trans hx166_0; (try have hy166_0 := fun (n_ : Nat) => (show (((((w14.drewN n_).setCell ⟨gb164, 0, none⟩ (.int .i8 ((rd_T81 ((rd_T31 l0 0).f1) x4_1).f0))).setCell ⟨gb164, 1, none⟩ (.int .i16 ((rd_T81 ((rd_T31 l0 0).f1) x4_1).f1))).setCell ⟨gb164, 2, none⟩ (.int .i16 ((rd_T81 ((rd_T31 l0 0).f1) x4_1).f2)))).cell? _ = some _ from hx166_0)); clear hn166_0; clear hn166_1; clear hn166_2; replace p166 := eq_true p166; replace q166 := eq_true q166) | (go_at_call 127; (with_reducible refine (spec_l00Min.calls 201 (wrap64 ((wrap64 (3 + (rd x3_1 ((rd_T81 ((rd_T31 l0 0).f1) x4_1).f1)))) + (rd x3_1 ((rd_T81 ((rd_T31 l0 0).f1) x4_1).f2)))) t167 _ A12.out).mono ?_); rintro e w' ⟨rfl, ⟨nd, rfl⟩⟩; (try first | exact ⟨rfl, _, World.drewN_drewN _ _ _⟩ | exact ⟨rfl, _, Eq.trans (World.drewN_drewN _ _ _) (congrArg (World.drewN _) (Nat.add_assoc _ _ _))⟩)) | ((with_reducible refine gate_builtin (b := .append) (xs := #[.tmp 40, .tmp 42]) rfl ?_); at_builtin; refine Kd.R_append (Kd.int .i64) (w0 := w) w.heap.size rfl (.tmp 40) (.tmp 42) 47 2 (.int .i64 0) 8 rfl Try.underlying47 info2 rfl (by decide) (by omega) (.slice (some ad165) x3_1.length co16) x3_1 t167 [.int .i64 t167] (fun _ => True) (fun _ => False) rfl (by first | (go_simp; done) | (go_simp; rfl)) ?aP (fun _ hk => hk.elim) ?aF ?aO ?aB ?aS ?aL ?_; (case aP => exact rfl); (case aB => exact zbo); (case aF => exact (fun _ _ => trivial)); (case aO => exact (Kd.R_mono (zs HO_3 BK164).out (fun _ hk => trivial))); (case aS => exact (zz HB)); (case aL => have := LMc13.out; omega); intro v169 w17 ho hb hg hat; rw [← Ny168.out] at ho; have n_ : _ ∧ _ ∧ _ := ⟨Aside0.mk (blk_grown (g := gb164) (o := .cells #[.int .i8 ((rd_T81 ((rd_T31 l0 0).f1) x4_1).f0), .int .i16 ((rd_T81 ((rd_T31 l0 0).f1) x4_1).f1), .int .i16 ((rd_T81 ((rd_T31 l0 0).f1) x4_1).f2)] 81 (0, 0)) (zp BK164) hg (Kd.R_ne HO_3.out BK164.out (by decide))), Aside0.mk (hb), Aside0.mk (ho)⟩; clear BK164 HB HO_3; obtain ⟨BK164, HB, HO170⟩ := n_; clear ho hb hg hat) | go_quiet (first | (go_at_call 127; (with_reducible refine (spec_l00Min.calls 201 (wrap64 ((wrap64 (3 + (rd x3_1 ((rd_T81 ((rd_T31 l0 0).f1) x4_1).f1)))) + (rd x3_1 ((rd_T81 ((rd_T31 l0 0).f1) x4_1).f2)))) t167 _ A12.out).mono ?_); rintro e w' ⟨rfl, ⟨nd, rfl⟩⟩; (try first | exact ⟨rfl, _, World.drewN_drewN _ _ _⟩ | exact ⟨rfl, _, Eq.trans (World.drewN_drewN _ _ _) (congrArg (World.drewN _) (Nat.add_assoc _ _ _))⟩))))
 go_roundg k1
 case measure => have := HK1.out; omega
 case rel => exact ⟨(y168), (wrap64 (x4_1 + 1)), zi, H', ⟨by have := HK1.out; omega⟩, ze HO170, zba⟩
end Go.Proofs.Ytmpmanfoiocfgaa.PFnExactFormulaOf
