-- WRITTEN by xprint.py, a program of this session's. Not trusted: Lean checks it.
-- packed by pack.py
import Derived.Test.YtmpmanfoiocfgaaPFnExactBothNetworksx0
import Derived.Test.YtmpmanfoiocfgaaTFnExactBothNetworksa
namespace Go.Proofs.Ytmpmanfoiocfgaa.PFnExactBothNetworks
open Go.RowKit Go.Proofs.YtmpmanfoiocfgaaW.PrintWords Go.Proofs.YtmpmanfoiocfgaaW.PrintLast Go.Proofs.YtmpmanfoiocfgaaW.PrintMore Go.Proofs.YtmpmanfoiocfgaaX
attribute [local go_sem] max2_int min2_int max_two min_two max_three min_three max_four min_four   -- for this text's walks alone
set_option maxHeartbeats 8000000
set_option maxRecDepth 100000
set_option linter.unusedVariables false
set_option linter.unusedSimpArgs false

theorem slices_Grow_int16_int16.zeros {P : Program} (w : World) (t tn ty e : TypeId) (i : TypeInfo) (z : Value) (k kn : IntKind) (ht : P.underlying t = some (.slice e)) (htn : P.underlying tn = some (.int kn)) (hi : P.info? e = some i) (hz : i.zero = some z)
    (n : Nat) (h0 : 0 < n) (hs : 0 < i.size) (h63 : (n : Int) ≤ 9223372036854775807) (h48 : n * i.bytes ≤ 281474976710656) :
    (Builtin.append_ #[t, tn] ty #[.slice none 0 0, .int k n]).run P w =
      .ok (.slice (some ⟨w.heap.size, 0, none⟩) n (grownCap w n 0 e)) (w.drew.alloc (.cells (Builtin.zeroCells z.cells n ++ Builtin.zeroCells z.cells (grownCap w n 0 e - n)) e)) := by
 have hn : n ≠ 0 := by omega
 have hw : IntKind.i64.wrap (n : Int) = n := by rw [IntKind.wrap_i64]; omega
 have h63' : ¬ (9223372036854775807 < (n : Int)) := by omega
 have h48' : ¬ (281474976710656 < Builtin.nextslicecap n 0 * i.bytes) := by rw [nextslicecap_zero h0]; omega
 have h48i : ¬ (281474976710656 < (n : Int) * (i.bytes : Int)) := by
  rw [← Int.natCast_mul]
  omega
 have hneg : ¬ ((n : Int) < 0) := by omega
 have hns : ¬ (n * i.size = 0) := Nat.mul_ne_zero hn (by omega)
 simp [Builtin.append_, run_underlying ht, run_underlying htn, sizeOf, typeInfo, zeroValue, hi, hz, asInt, asIntOf, hw, hn, hneg, hns, h63', h48', h48i, Question.forced, run_firstCells_none, newRow, grownCap]
theorem slices_Grow_int16_int16.arun {P : Program} (w : World) {ops : Array Oper} {rest : List Oper} {o : Oper} {a : Act} {Q : Exit → Act → World → Prop} (hgd : o.guard = none) (s x : Operand) (t tn : TypeId)
    (ho : o.op = .call { callee := .builtin .append, args := #[s, x], argTypes := #[t, tn] }) (vs vx : Value) (hs : a.eval s = vs) (hx : a.eval x = vx)
    (v' : Value) (w' : World) (hr : ∀ ty, (Builtin.append_ #[t, tn] ty #[vs, vx]).run P w = .ok v' w') (h : wpList P ops Q rest (a.put o.dst v') w') : wpList P ops Q (o :: rest) a w :=
  wpList_plain hgd fun _ hK => by
    unfold Oper.wp execOp
    simp only [ho, resolve, invoke, builtin, Sem.run_bind, Sem.run_pure, Result.andThen_ok, List.map_toArray, List.map_cons, List.map_nil, hs, hx, hr o.type]
    exact hK _ _ h
def slices_Grow_int16_int16.f (l0 : List (Int)) (a1 : Int) : Option (List (Int)) := if 0 ≤ a1 then (if a1 < 1000000000 then (some []) else (none)) else (none)
theorem slices_Grow_int16_int16.calls (A0 : Option Addr) (c0 : Nat) (l0 : List (Int)) (a1 : Int) (r : List (Int)) (w : World) (hr0 : Kd.C (Kd.int .i16) w A0 l0.length l0) (hc0 : l0.length ≤ c0) (h : slices_Grow_int16_int16.f l0 a1 = some r) (hA : A0 = none := by rfl) (hC : c0 = 0 := by rfl) :
    Calls Try.prog 134 #[.slice A0 l0.length c0, .int .i64 a1] w fun e w' => ∃ v0_ : Value, e = .returned (v0_) ∧ Kd.R (Kd.int .i16) 79 w' w.heap.size (fun _ => True) v0_ r ∧ Below w.heap.size w w' := by
 subst hA hC
 obtain rfl : l0 = [] := List.eq_nil_of_length_eq_zero (by omega)
 clear hr0 hc0
 unfold slices_Grow_int16_int16.f at h
 by_cases c1 : 0 ≤ a1
 rotate_left
 ·rw [if_neg c1] at h; cases h
 by_cases c2 : a1 < 1000000000
 rotate_left
 ·rw [if_pos c1, if_neg c2] at h; cases h
 rw [if_pos c1, if_pos c2] at h
 obtain rfl := Option.some.inj h
 clear h
 obtain ⟨n, rfl⟩ := Int.eq_ofNat_of_zero_le c1
 have hn1 : ¬ ((n : Int) < 0) := by omega
 have hn2 : wrap64 (n : Int) = (n : Int) := by unfold wrap64; omega
 by_cases h0 : n = 0
 ·subst h0
  go_enter Try.func134, Try.ntmps134
  go_wp2
  go_ret
  exact ⟨_, rfl, Kd.R_nil _ _ _ _ _, Below.refl _ _⟩
 have hp : (0 : Int) < (n : Int) := by omega
 have hp2 : ((n : Int) > 0) := by omega
 obtain ⟨i0, hi, hzz⟩ := Option.map_eq_some_iff.1 info79
 simp only [Prod.mk.injEq] at hzz
 obtain ⟨hz0, hz1, hz2⟩ := hzz
 have hrun := fun (W : World) (ty : TypeId) => slices_Grow_int16_int16.zeros (P := Try.prog) W 24 3 ty 79 i0 (.int .i16 0) .i64 .i64 Try.underlying24 Try.underlying3 hi hz0 n (by omega) (by omega) (by omega) (by rw [hz2]; omega)
 have HZ := Aside0.mk hrun
 have HI := Aside0.mk (And.intro hz0 (And.intro hz1 hz2))
 have HN := Aside0.mk hn2
 have HC2 := Aside0.mk c2
 clear hrun hi hz0 hz1 hz2 c1 c2
 go_enter Try.func134, Try.ntmps134
 go_wp2_with (at_builtin; refine slices_Grow_int16_int16.arun _ rfl _ _ 24 3 rfl (.slice none 0 0) (.int .i64 n) rfl (congrArg (Value.int .i64) HN.out) _ _ (HZ.out _) ?_)
 go_ret
 refine ⟨_, rfl, ⟨fun _ _ => trivial, [], ⟨rfl, .inr ⟨w.heap.size, grownCap w n 0 79, _, rfl, Nat.le_refl _, heap_alloc_new w.drew _, Nat.zero_le _, grownCap_le_maxLen w n 0 79 (by have := HC2.out; simp only [maxLen]; omega), ?_, rfl⟩⟩, Reps.none _ _⟩, ?_⟩
 rotate_left
 ·exact below_alloc (below_drew1 (Below.refl _ _)) _
 have hg := grownCap_ge w n 0 79
 rw [Array.size_append, size_zeroCells, size_zeroCells, ← Nat.add_mul, Nat.add_sub_of_le hg]
 rfl
mutual
def slices_Concat_int16_int16.l0 : Nat → List (List Int) → Int → List (List Int) → Int → Int → Option (List Int)
  | 0, _, _, _, _, _ => none
  | k + 1, x0, x3, x9, x10, x11 => if x11 < x10 then (if 0 ≤ x11 then (if x11 < (x9.length : Int) then (if (wrap64 (x3 + ((rd_L5 x9 x11).length : Int))) < 0 then (none) else (slices_Concat_int16_int16.l0 k x0 (wrap64 (x3 + ((rd_L5 x9 x11).length : Int))) x9 x10 (wrap64 (x11 + 1)))) else (none)) else (none)) else ((slices_Grow_int16_int16.f ([] : List Int) x3).bind fun t222 => (slices_Concat_int16_int16.l1 k t222 x0 (x0.length : Int) 0))
def slices_Concat_int16_int16.l1 : Nat → List Int → List (List Int) → Int → Int → Option (List Int)
  | 0, _, _, _, _ => none
  | k + 1, x6, x25, x26, x27 => if x27 < x26 then (if 0 ≤ x27 then (if x27 < (x25.length : Int) then (if x6.length + (rd_L5 x25 x27).length < 70368744177664 then (slices_Concat_int16_int16.l1 k (x6 ++ (rd_L5 x25 x27)) x25 x26 (wrap64 (x27 + 1))) else (none)) else (none)) else (none)) else (some x6)
end
def slices_Concat_int16_int16.f (k : Nat) (l0 : List (List Int)) : Option (List Int) := slices_Concat_int16_int16.l0 k l0 0 l0 (l0.length : Int) 0
theorem slices_Concat_int16_int16.mono_l : ∀ k, (∀ y0 y1 y2 y3 y4, LeO (slices_Concat_int16_int16.l0 k y0 y1 y2 y3 y4) (slices_Concat_int16_int16.l0 (k + 1) y0 y1 y2 y3 y4)) ∧ (∀ y0 y1 y2 y3, LeO (slices_Concat_int16_int16.l1 k y0 y1 y2 y3) (slices_Concat_int16_int16.l1 (k + 1) y0 y1 y2 y3))
  | 0 => ⟨fun _ _ _ _ _ r h => by simp [slices_Concat_int16_int16.l0] at h, fun _ _ _ _ r h => by simp [slices_Concat_int16_int16.l1] at h⟩
  | k + 1 => by
    obtain ⟨ih0, ih1⟩ := slices_Concat_int16_int16.mono_l k
    refine ⟨?_, ?_⟩
    · intro y0 y1 y2 y3 y4
      unfold slices_Concat_int16_int16.l0
      repeat' first | (with_reducible first | apply ih0 | apply ih1 | exact LeO.refl _ | exact LeO.none _ | refine LeO.ite ?_ ?_ | refine LeO.bind ?_ (fun _ => ?_)) | apply ih0 | apply ih1 | exact LeO.none _ | refine LeO.ite ?_ ?_ | refine LeO.bind ?_ (fun _ => ?_)
    · intro y0 y1 y2 y3
      unfold slices_Concat_int16_int16.l1
      repeat' first | (with_reducible first | apply ih0 | apply ih1 | exact LeO.refl _ | exact LeO.none _ | refine LeO.ite ?_ ?_ | refine LeO.bind ?_ (fun _ => ?_)) | apply ih0 | apply ih1 | exact LeO.none _ | refine LeO.ite ?_ ?_ | refine LeO.bind ?_ (fun _ => ?_)
theorem slices_Concat_int16_int16.mono : ∀ a0 k, LeO (slices_Concat_int16_int16.f k a0) (slices_Concat_int16_int16.f (k + 1) a0) := by
 intro a0 k
 obtain ⟨ih0, ih1⟩ := slices_Concat_int16_int16.mono_l k
 unfold slices_Concat_int16_int16.f
 repeat' first | (with_reducible first | apply ih0 | apply ih1 | exact LeO.refl _ | exact LeO.none _ | refine LeO.ite ?_ ?_ | refine LeO.bind ?_ (fun _ => ?_)) | apply ih0 | apply ih1 | exact LeO.none _ | refine LeO.ite ?_ ?_ | refine LeO.bind ?_ (fun _ => ?_)
theorem slices_Concat_int16_int16.calls (k : Nat) (A0 : Option Addr) (c0 : Nat) (l0 : List (List Int)) (r : List Int) (w : World) (hr0 : Kd.C (Kd.slice 79 (Kd.int .i16)) w A0 l0.length l0) (hc0 : l0.length ≤ c0) (h : slices_Concat_int16_int16.f k l0 = some r) :
    Calls Try.prog 105 #[.slice A0 l0.length c0] w fun e w' => ∃ v0_ : Value, e = .returned (v0_) ∧ Kd.R (Kd.int .i16) 79 w' w.heap.size (fun _ => True) v0_ r ∧ Below w.heap.size w w' := by
 have HR0 := Aside0.mk hr0
 have HC0 := Aside0.mk hc0
 clear hr0 hc0
 have HB := Aside0.mk (Below.refl w.heap.size w)
 have H : (slices_Concat_int16_int16.l0 k l0 0 l0 (l0.length : Int) 0) = some r := h
 clear h
 have H' := Aside0.mk H
 clear H
 go_enter Try.func105, Try.ntmps105
 go_wp2
 go_loopg [3, 11] k (fun kq v3 v11 w' => ∃ (x3_1 : Int) (x11_1 : Int), v3 = .int .i64 x3_1 ∧ v11 = .int .i64 x11_1 ∧ Aside0 (slices_Concat_int16_int16.l0 kq l0 x3_1 l0 (l0.length : Int) x11_1 = some r) ∧ Aside0 (kq ≤ k) ∧ Aside0 (Below w.heap.size w w'))
 case atStart => exact ⟨(0), (0), zi, zi, H', ⟨Nat.le_refl _⟩, zl HB⟩
 clear H'
 try clear c1
 obtain ⟨x3_1, x11_1, rfl, rfl, HA, HK1, HB⟩ := hrel
 cases gk with
 | zero => exact absurd HA.out (by simp [slices_Concat_int16_int16.l0])
 | succ k1 => ?_
 have H := HA.out
 clear HA
 simp only [slices_Concat_int16_int16.l0] at H
 by_cases c2 : x11_1 < (l0.length : Int)
 ·rw [if_pos c2] at H
  have c2b0 : decide (x11_1 < (l0.length : Int)) = true := decide_eq_true c2
  clear c2
  by_cases c3 : 0 ≤ x11_1
  rotate_left
  ·rw [if_neg c3] at H
   exact absurd H (by simp)
  rw [if_pos c3] at H
  have c3b0 : decide (0 ≤ x11_1) = true := decide_eq_true c3
  clear c3
  by_cases c4 : x11_1 < (l0.length : Int)
  rotate_left
  ·rw [if_neg c4] at H
   exact absurd H (by simp)
  rw [if_pos c4] at H
  have c4b0 : decide (x11_1 < (l0.length : Int)) = true := decide_eq_true c4
  clear c4
  by_cases c5 : (wrap64 (x3_1 + ((rd_L5 l0 x11_1).length : Int))) < 0
  ·rw [if_pos c5] at H
   exact absurd H (by simp)
  rw [if_neg c5] at H
  have c5b0 : decide ((wrap64 (x3_1 + ((rd_L5 l0 x11_1).length : Int))) < 0) = false := decide_eq_false c5
  clear c5
  have H' := Aside0.mk H
  clear H
  have p221 : 0 ≤ (x11_1 : Int) := of_decide_eq_true zA
  have q221 : x11_1 < (l0.length : Int) := of_decide_eq_true zA
  obtain ⟨ad221, A221_0, c221_0, e221, hx221_0, hl221_0, hi221_0⟩ := at_L5 HR0.out x11_1 p221 q221
  cases e221
  replace hx221_0 := zc HB hx221_0
  have HR221_0 := Aside0.mk hi221_0
  have HC221_0 := Aside0.mk hl221_0
  clear hi221_0 hl221_0
  replace p221 := eq_true p221
  replace q221 := eq_true q221
  go_wp2
  go_roundg k1
  case measure => have := HK1.out; omega
  case rel => exact ⟨(wrap64 (x3_1 + ((rd_L5 l0 x11_1).length : Int))), (wrap64 (x11_1 + 1)), zi, zi, H', ⟨by have := HK1.out; omega⟩, zl HB⟩
 rw [if_neg c2] at H
 have c2b0 : decide (x11_1 < (l0.length : Int)) = false := decide_eq_false c2
 clear c2
 replace H := zob H
 obtain ⟨t222, A60, H⟩ := H
 replace H : (slices_Concat_int16_int16.l1 k1 t222 l0 (l0.length : Int) 0) = some r := H
 have A6 := Aside0.mk A60
 clear A60
 have H' := Aside0.mk H
 clear H
 go_wp2_with (first | ((with_reducible refine gate_callee (f := 134) rfl ?_); refine goesL_ (some 24) rfl rfl Try.func134 (by kernel_rfl) rfl #[.slice none 0 0, .int .i64 x3_1] rfl zm ?_; (refine (slices_Grow_int16_int16.calls _ _ ([] : List Int) x3_1 t222 _ ?side1 ?side2 A6.out).mono ?_); (case side1 => exact Kd.C_nil _ _); (case side2 => exact Nat.le_refl _); rintro e w7 ⟨v223, rfl, ho0, hb⟩; refine ⟨_, rfl, ?_⟩; have n_ : _ ∧ _ := ⟨Aside0.mk (Kd.R_lower ho0 (zz HB)), zb HB hb⟩; clear HB; obtain ⟨HO224, HB⟩ := n_; (try clear hb); (try clear hb2); (try clear hk); (try clear hi); (try clear ho0)))
 go_loopg [6, 27] k1 (fun kq v6 v27 w' => ∃ (x6_2 : List Int) (x27_2 : Int), v27 = .int .i64 x27_2 ∧ Aside0 (slices_Concat_int16_int16.l1 kq x6_2 l0 (l0.length : Int) x27_2 = some r) ∧ Aside0 (kq ≤ k1) ∧ Aside0 (Kd.R (Kd.int .i16) 79 w' w.heap.size (fun _ => True) v6 x6_2) ∧ Aside0 (Below w.heap.size w w'))
 case atStart => exact ⟨(t222), (0), zi, H', ⟨Nat.le_refl _⟩, ze HO224, zl HB⟩
 clear H'
 try clear c1
 try clear c2
 try clear c2b0
 try clear p2
 try clear q2
 try clear hx2
 try clear c3
 try clear c3b0
 try clear c4
 try clear c4b0
 try clear c5
 try clear c5b0
 try clear p6
 try clear hx221_0
 try clear p221
 try clear q221
 obtain ⟨x6_2, x27_2, rfl, HA, HK2, HO_6, HB⟩ := hrel
 cases gk with
 | zero => exact absurd HA.out (by simp [slices_Concat_int16_int16.l1])
 | succ k2 => ?_
 have H := HA.out
 clear HA
 simp only [slices_Concat_int16_int16.l1] at H
 by_cases c8 : x27_2 < (l0.length : Int)
 rotate_left
 ·rw [if_neg c8] at H
  have c8b0 : decide (x27_2 < (l0.length : Int)) = false := decide_eq_false c8
  clear c8
  obtain rfl := Option.some.inj H
  go_wp2
  go_ret
  exact ⟨_, zv, by (with_reducible repeat (first | apply Kd.R_alloc | apply Kd.R_drewN | apply Kd.R_drew)); exact HO_6.out, zbo⟩
 rw [if_pos c8] at H
 have c8b0 : decide (x27_2 < (l0.length : Int)) = true := decide_eq_true c8
 clear c8
 by_cases c9 : 0 ≤ x27_2
 rotate_left
 ·rw [if_neg c9] at H
  exact absurd H (by simp)
 rw [if_pos c9] at H
 have c9b0 : decide (0 ≤ x27_2) = true := decide_eq_true c9
 clear c9
 by_cases c10 : x27_2 < (l0.length : Int)
 rotate_left
 ·rw [if_neg c10] at H
  exact absurd H (by simp)
 rw [if_pos c10] at H
 have c10b0 : decide (x27_2 < (l0.length : Int)) = true := decide_eq_true c10
 clear c10
 by_cases c11 : x6_2.length + (rd_L5 l0 x27_2).length < 70368744177664
 rotate_left
 ·rw [if_neg c11] at H
  exact absurd H (by simp)
 rw [if_pos c11] at H
 have LMc11 := Aside0.mk c11
 clear c11
 obtain ⟨y226, hy226⟩ : ∃ y_ : List Int, y_ = (x6_2 ++ (rd_L5 l0 x27_2)) := ⟨_, rfl⟩
 replace H : (slices_Concat_int16_int16.l1 k2 y226 l0 (l0.length : Int) (wrap64 (x27_2 + 1))) = some r := by first | (rw [hy226]; with_reducible exact H) | (have H2_ := (Option.bind_some _ _).symm.trans H; rw [hy226]; with_reducible exact H2_) | (have H2_ := (Option.bind_some _ _).symm.trans H; with_reducible exact H2_) | with_reducible exact H | (rw [hy226]; exact H) | exact H
 have Ny226 := Aside0.mk hy226
 clear hy226
 have H' := Aside0.mk H
 clear H
 have p225 : 0 ≤ (x27_2 : Int) := of_decide_eq_true zA
 have q225 : x27_2 < (l0.length : Int) := of_decide_eq_true zA
 obtain ⟨ad225, A225_0, c225_0, e225, hx225_0, hl225_0, hi225_0⟩ := at_L5 HR0.out x27_2 p225 q225
 cases e225
 replace hx225_0 := zc HB hx225_0
 have HR225_0 := Aside0.mk hi225_0
 have HC225_0 := Aside0.mk hl225_0
 clear hi225_0 hl225_0
 replace p225 := eq_true p225
 replace q225 := eq_true q225
 go_wp2_with (first | ((with_reducible refine gate_builtin (b := .append) (xs := #[.tmp 31, .tmp 32]) rfl ?_); at_builtin; refine Kd.R_append_rows (Kd.int .i16) (w0 := w) w.heap.size rfl (.tmp 31) (.tmp 32) 24 79 (.int .i16 0) 2 rfl Try.underlying24 info79 rfl (by decide) (by omega) u6 x6_2 (rd_L5 l0 x27_2) _ _ _ (fun _ => True) (fun _ => False) rfl rfl ?aO ?aR (fun _ _ h => h) (fun _ h => h.elim) ?aF ?aB ?aS ?aL ?_; (case aR => exact zcc HB HR225_0.out); (case aB => exact (zl HB).out); (case aF => exact (fun _ _ => trivial)); (case aO => exact (ze HO_6).out); (case aS => exact (zz HB)); (case aL => have := LMc11.out; omega); intro v227 w12 ho hb hg hat; rw [← Ny226.out] at ho; have n_ : _ ∧ _ := ⟨Aside0.mk (hb), Aside0.mk (ho)⟩; clear HB HO_6; obtain ⟨HB, HO228⟩ := n_; clear ho hb hg hat))
 go_roundg k2
 case measure => have := HK1.out; have := HK2.out; omega
 case rel => exact ⟨(y226), (wrap64 (x27_2 + 1)), zi, H', ⟨by have := HK1.out; have := HK2.out; omega⟩, ze HO228, zl HB⟩
def impl_renamedAll.l0 : Nat → List Int → List Int → List Int → Int → Int → Option (List Int)
  | 0, _, _, _, _, _ => none
  | k + 1, x1, x5, x9, x10, x11 => if x11 < x10 then (if 0 ≤ x11 then (if x11 < (x9.length : Int) then (if 0 ≤ (rd x9 x11) then (if (rd x9 x11) < (x1.length : Int) then (if x5.length < 70368744177664 then (impl_renamedAll.l0 k x1 (x5 ++ [rd x1 (rd x9 x11)]) x9 x10 (wrap64 (x11 + 1))) else (none)) else (none)) else (none)) else (none)) else (none)) else (some x5)
def impl_renamedAll.f (k : Nat) (l0 : List Int) (l1 : List Int) : Option (List Int) := impl_renamedAll.l0 k l1 (([] : List Int)) l0 (l0.length : Int) 0
theorem impl_renamedAll.mono_l : ∀ k, (∀ y0 y1 y2 y3 y4, LeO (impl_renamedAll.l0 k y0 y1 y2 y3 y4) (impl_renamedAll.l0 (k + 1) y0 y1 y2 y3 y4))
  | 0 => fun _ _ _ _ _ r h => by simp [impl_renamedAll.l0] at h
  | k + 1 => by
    have ih0 := impl_renamedAll.mono_l k
    · intro y0 y1 y2 y3 y4
      unfold impl_renamedAll.l0
      repeat' first | (with_reducible first | apply ih0 | exact LeO.refl _ | exact LeO.none _ | refine LeO.ite ?_ ?_ | refine LeO.bind ?_ (fun _ => ?_)) | apply ih0 | exact LeO.none _ | refine LeO.ite ?_ ?_ | refine LeO.bind ?_ (fun _ => ?_)
theorem impl_renamedAll.mono : ∀ a0 a1 k, LeO (impl_renamedAll.f k a0 a1) (impl_renamedAll.f (k + 1) a0 a1) := by
 intro a0 a1 k
 have ih0 := impl_renamedAll.mono_l k
 unfold impl_renamedAll.f
 repeat' first | (with_reducible first | apply ih0 | exact LeO.refl _ | exact LeO.none _ | refine LeO.ite ?_ ?_ | refine LeO.bind ?_ (fun _ => ?_)) | apply ih0 | exact LeO.none _ | refine LeO.ite ?_ ?_ | refine LeO.bind ?_ (fun _ => ?_)
theorem impl_renamedAll.calls (k : Nat) (A0 : Option Addr) (c0 : Nat) (l0 : List Int) (A1 : Option Addr) (c1 : Nat) (l1 : List Int) (r : List Int) (w : World) (hr0 : Kd.C (Kd.int .i16) w A0 l0.length l0) (hc0 : l0.length ≤ c0) (hr1 : Kd.C (Kd.int .i16) w A1 l1.length l1) (hc1 : l1.length ≤ c1) (h : impl_renamedAll.f k l0 l1 = some r) :
    Calls Try.prog 106 #[.slice A0 l0.length c0, .slice A1 l1.length c1] w fun e w' => ∃ v0_ : Value, e = .returned (v0_) ∧ Kd.R (Kd.int .i16) 79 w' w.heap.size (fun _ => True) v0_ r ∧ Below w.heap.size w w' := by
 have HR0 := Aside0.mk hr0
 have HC0 := Aside0.mk hc0
 clear hr0 hc0
 have HR1 := Aside0.mk hr1
 have HC1 := Aside0.mk hc1
 clear hr1 hc1
 have HB := Aside0.mk (Below.refl w.heap.size w)
 have H : (impl_renamedAll.l0 k l1 (([] : List Int)) l0 (l0.length : Int) 0) = some r := h
 clear h
 obtain ⟨y229, hy229⟩ : ∃ y_ : List Int, y_ = (([] : List Int)) := ⟨_, rfl⟩
 replace H : (impl_renamedAll.l0 k l1 y229 l0 (l0.length : Int) 0) = some r := by first | (rw [hy229]; with_reducible exact H) | (have H2_ := (Option.bind_some _ _).symm.trans H; rw [hy229]; with_reducible exact H2_) | (have H2_ := (Option.bind_some _ _).symm.trans H; with_reducible exact H2_) | with_reducible exact H | (rw [hy229]; exact H) | exact H
 have Ny229 := Aside0.mk hy229
 clear hy229
 have H' := Aside0.mk H
 clear H
 go_enter Try.func106, Try.ntmps106
 go_wp2_with (first | ((with_reducible refine gate_dst (N := 8) rfl ?_); refine Kd.R_lit (Kd.int .i16) _ 79 ?hg (N := 8) ?hd (xs := ([] : List Int)) (inner := []) (ok := fun _ => True) (okp := fun _ => True) ?hr ?hp (fun _ hk => hk) trivial (Below.refl _ _) (Nat.le_refl _) (by simp) ?_; (case hd => rfl); (case hg => rfl); (case hr => exact zgs); (case hp => exact (Reps.none _ _)); intro v230 w3 ho4 hb hg_ hnew_; clear hg_ hnew_; (first | rw [← Ny229.out] at ho4 | (simp only [Int.reduceToNat] at ho4; rw [← Ny229.out] at ho4)); have n_ : _ ∧ _ := ⟨Aside0.mk (Kd.R_lower ho4 (zz HB)), zb HB hb⟩; clear HB; obtain ⟨HO231, HB⟩ := n_; clear hb ho4))
 go_loopg [5, 11] k (fun kq v5 v11 w' => ∃ (x5_1 : List Int) (x11_1 : Int), v11 = .int .i64 x11_1 ∧ Aside0 (impl_renamedAll.l0 kq l1 x5_1 l0 (l0.length : Int) x11_1 = some r) ∧ Aside0 (kq ≤ k) ∧ Aside0 (Kd.R (Kd.int .i16) 79 w' w.heap.size (fun _ => True) v5 x5_1) ∧ Aside0 (Below w.heap.size w w'))
 case atStart => exact ⟨(y229), (0), zi, H', ⟨Nat.le_refl _⟩, ze HO231, zl HB⟩
 clear H'
 try clear c1
 try clear p2
 obtain ⟨x5_1, x11_1, rfl, HA, HK1, HO_5, HB⟩ := hrel
 cases gk with
 | zero => exact absurd HA.out (by simp [impl_renamedAll.l0])
 | succ k1 => ?_
 have H := HA.out
 clear HA
 simp only [impl_renamedAll.l0] at H
 by_cases c5 : x11_1 < (l0.length : Int)
 rotate_left
 ·rw [if_neg c5] at H
  have c5b0 : decide (x11_1 < (l0.length : Int)) = false := decide_eq_false c5
  clear c5
  obtain rfl := Option.some.inj H
  go_wp2
  go_ret
  exact ⟨_, zv, by (with_reducible repeat (first | apply Kd.R_alloc | apply Kd.R_drewN | apply Kd.R_drew)); exact HO_5.out, zbo⟩
 rw [if_pos c5] at H
 have c5b0 : decide (x11_1 < (l0.length : Int)) = true := decide_eq_true c5
 clear c5
 by_cases c6 : 0 ≤ x11_1
 rotate_left
 ·rw [if_neg c6] at H
  exact absurd H (by simp)
 rw [if_pos c6] at H
 have c6b0 : decide (0 ≤ x11_1) = true := decide_eq_true c6
 clear c6
 by_cases c7 : x11_1 < (l0.length : Int)
 rotate_left
 ·rw [if_neg c7] at H
  exact absurd H (by simp)
 rw [if_pos c7] at H
 have c7b0 : decide (x11_1 < (l0.length : Int)) = true := decide_eq_true c7
 clear c7
 by_cases c8 : 0 ≤ (rd l0 x11_1)
 rotate_left
 ·rw [if_neg c8] at H
  exact absurd H (by simp)
 rw [if_pos c8] at H
 have c8b0 : decide (0 ≤ (rd l0 x11_1)) = true := decide_eq_true c8
 clear c8
 by_cases c9 : (rd l0 x11_1) < (l1.length : Int)
 rotate_left
 ·rw [if_neg c9] at H
  exact absurd H (by simp)
 rw [if_pos c9] at H
 have c9b0 : decide ((rd l0 x11_1) < (l1.length : Int)) = true := decide_eq_true c9
 clear c9
 by_cases c10 : x5_1.length < 70368744177664
 rotate_left
 ·rw [if_neg c10] at H
  exact absurd H (by simp)
 rw [if_pos c10] at H
 have LMc10 := Aside0.mk c10
 clear c10
 obtain ⟨y234, hy234⟩ : ∃ y_ : List Int, y_ = (x5_1 ++ [rd l1 (rd l0 x11_1)]) := ⟨_, rfl⟩
 replace H : (impl_renamedAll.l0 k1 l1 y234 l0 (l0.length : Int) (wrap64 (x11_1 + 1))) = some r := by first | (rw [hy234]; with_reducible exact H) | (have H2_ := (Option.bind_some _ _).symm.trans H; rw [hy234]; with_reducible exact H2_) | (have H2_ := (Option.bind_some _ _).symm.trans H; with_reducible exact H2_) | with_reducible exact H | (rw [hy234]; exact H) | exact H
 have Ny234 := Aside0.mk hy234
 clear hy234
 have H' := Aside0.mk H
 clear H
 have p232 : 0 ≤ (x11_1 : Int) := of_decide_eq_true zA
 have q232 : x11_1 < (l0.length : Int) := of_decide_eq_true zA
 obtain ⟨ad232, e232, hx232_0⟩ := Kd.at_int HR0.out x11_1 p232 q232
 cases e232
 replace hx232_0 := zc HB hx232_0
 replace p232 := eq_true p232
 replace q232 := eq_true q232
 have p233 : 0 ≤ ((rd l0 x11_1) : Int) := of_decide_eq_true zA
 have q233 : (rd l0 x11_1) < (l1.length : Int) := of_decide_eq_true zA
 obtain ⟨ad233, e233, hx233_0⟩ := Kd.at_int HR1.out (rd l0 x11_1) p233 q233
 cases e233
 replace hx233_0 := zc HB hx233_0
 replace p233 := eq_true p233
 replace q233 := eq_true q233
 go_wp2_with (first | ((with_reducible refine gate_builtin (b := .append) (xs := #[.tmp 15, .tmp 20]) rfl ?_); at_builtin; refine Kd.R_append (Kd.int .i16) (w0 := w) w.heap.size rfl (.tmp 15) (.tmp 20) 24 79 (.int .i16 0) 2 rfl Try.underlying24 info79 rfl (by decide) (by omega) u5 x5_1 (rd l1 (rd l0 x11_1)) [.int .i16 (rd l1 (rd l0 x11_1))] (fun _ => True) (fun _ => False) rfl rfl ?aP (fun _ hk => hk.elim) ?aF ?aO ?aB ?aS ?aL ?_; (case aP => exact rfl); (case aB => exact (zl HB).out); (case aF => exact (fun _ _ => trivial)); (case aO => exact (ze HO_5).out); (case aS => exact (zz HB)); (case aL => have := LMc10.out; omega); intro v235 w11 ho hb hg hat; rw [← Ny234.out] at ho; have n_ : _ ∧ _ := ⟨Aside0.mk (hb), Aside0.mk (ho)⟩; clear HB HO_5; obtain ⟨HB, HO236⟩ := n_; clear ho hb hg hat))
 go_roundg k1
 case measure => have := HK1.out; omega
 case rel => exact ⟨(y234), (wrap64 (x11_1 + 1)), zi, H', ⟨by have := HK1.out; omega⟩, ze HO236, zl HB⟩
def impl_Node_inner.f (a0_0 : Int) (a0_1 : Int) (a0_2 : Int) : Option (Bool) := if a0_0 = 2 then (some true) else (some (a0_0 == 3))
theorem impl_Node_inner.calls (a0_0 : Int) (a0_1 : Int) (a0_2 : Int) (r : Bool) (w : World) (h : impl_Node_inner.f a0_0 a0_1 a0_2 = some r) :
    Calls Try.prog 133 #[.agg #[.int .i8 a0_0, .int .i16 a0_1, .int .i16 a0_2]] w fun e w' => e = .returned (.bool r) ∧ Below w.heap.size w w' := by
 have hu81 := Try.underlying81
 have HB := Aside0.mk (Below.refl w.heap.size w)
 have H : (if a0_0 = 2 then (some true) else (some (a0_0 == 3))) = some r := h
 clear h
 by_cases c2 : a0_0 = 2
 rotate_left
 ·rw [if_neg c2] at H
  have c2b0 : (a0_0 == 2) = false := beq_eq_false_iff_ne.mpr c2
  have c2b1 : (a0_0 != 2) = true := bne_iff_ne.mpr c2
  obtain rfl := Option.some.inj H
  go_enter Try.func133, Try.ntmps133
  go_wp2_with (first | ((with_reducible refine gate_dst (N := 1) rfl ?_); refine zbx 1 #[.int .i8 a0_0, .int .i16 a0_1, .int .i16 a0_2] 81 ?_; intro gb237 hg w5 hbox hb; have n_ : _ ∧ _ ∧ _ ∧ _ := ⟨zb HB hb, Aside0.mk (hbox), zg HB hg, zg HB hg⟩; clear HB; obtain ⟨HB, BK237, GW237, GE237⟩ := n_; clear hb hbox hg; obtain ⟨z6_0, z6_1, z6_2, y6_0, y6_1, y6_2⟩ := zB3 BK237))
  go_ret
  exact ⟨zv, zbo⟩
 rw [if_pos c2] at H
 have c2b0 : (a0_0 == 2) = true := beq_iff_eq.mpr c2
 have c2b1 : (a0_0 != 2) = false := bne_eq_false_iff_eq.mpr c2
 clear c2
 obtain rfl := Option.some.inj H
 go_enter Try.func133, Try.ntmps133
 go_wp2_with (first | ((with_reducible refine gate_dst (N := 1) rfl ?_); refine zbx 1 #[.int .i8 a0_0, .int .i16 a0_1, .int .i16 a0_2] 81 ?_; intro gb237 hg w3 hbox hb; have n_ : _ ∧ _ ∧ _ ∧ _ := ⟨zb HB hb, Aside0.mk (hbox), zg HB hg, zg HB hg⟩; clear HB; obtain ⟨HB, BK237, GW237, GE237⟩ := n_; clear hb hbox hg; obtain ⟨z4_0, z4_1, z4_2, y4_0, y4_1, y4_2⟩ := zB3 BK237))
 go_ret
 exact ⟨zv, zbo⟩
def impl_Node_renamed.f (a0_0 : Int) (a0_1 : Int) (a0_2 : Int) (l1 : List Int) : Option (Int × Int × Int) := (impl_Node_inner.f a0_0 a0_1 a0_2).bind fun t329 => (if t329 = true then (if 0 ≤ a0_1 then (if a0_1 < (l1.length : Int) then (if 0 ≤ a0_2 then (if a0_2 < (l1.length : Int) then (some (a0_0, rd l1 a0_1, rd l1 a0_2)) else (none)) else (none)) else (none)) else (none)) else (some (a0_0, a0_1, a0_2)))
def impl_Node_renamed.T2 : Bool × List (List Nat × List Nat) := (true, [([], []), ([], []), ([1], [1]), ([0, 2], [0, 2]), ([3], [3]), ([], []), ([], []), ([6], [6]), ([5, 7], [5, 7]), ([8], [8]), ([0, 1, 2, 3, 4, 6, 7], []), ([10, 4, 0, 1, 2, 3, 4, 6, 7], [4, 10]), ([0, 1, 2, 3, 4, 5, 6, 7, 8, 9, 10, 11], []), ([12, 9, 11, 0, 1, 2, 3, 4, 5, 6, 7, 8, 9, 10, 11], [9, 12])])
def impl_Node_renamed.B2 : List Nat := [0, 0, 2, 7, 15, 0, 0, 64, 224, 480, 223, 1247, 4095, 8191]
theorem impl_Node_renamed.tab2 : rtab .any (opsOf Try.f107 2) = impl_Node_renamed.T2 := by kernel_rfl
theorem impl_Node_renamed.bits2 : waitsOk impl_Node_renamed.T2.2 impl_Node_renamed.B2 = true := by kernel_rfl
theorem impl_Node_renamed.calls (a0_0 : Int) (a0_1 : Int) (a0_2 : Int) (A1 : Option Addr) (c1 : Nat) (l1 : List Int) (r1 : Int) (r2 : Int) (r3 : Int) (w : World) (hr1 : Kd.C (Kd.int .i16) w A1 l1.length l1) (hc1 : l1.length ≤ c1) (h : impl_Node_renamed.f a0_0 a0_1 a0_2 l1 = some (r1, r2, r3)) :
    Calls Try.prog 107 #[.agg #[.int .i8 a0_0, .int .i16 a0_1, .int .i16 a0_2], .slice A1 l1.length c1] w fun e w' => e = .returned (.agg #[.int .i8 r1, .int .i16 r2, .int .i16 r3]) ∧ Below w.heap.size w w' := by
 have hu81 := Try.underlying81
 have HR1 := Aside0.mk hr1
 have HC1 := Aside0.mk hc1
 clear hr1 hc1
 have HB := Aside0.mk (Below.refl w.heap.size w)
 have H : ((impl_Node_inner.f a0_0 a0_1 a0_2).bind fun t329 => (if t329 = true then (if 0 ≤ a0_1 then (if a0_1 < (l1.length : Int) then (if 0 ≤ a0_2 then (if a0_2 < (l1.length : Int) then (some (a0_0, rd l1 a0_1, rd l1 a0_2)) else (none)) else (none)) else (none)) else (none)) else (some (a0_0, a0_1, a0_2)))) = some (r1, r2, r3) := h
 clear h
 replace H := zob H
 obtain ⟨t329, A30, H⟩ := H
 replace H : (if t329 = true then (if 0 ≤ a0_1 then (if a0_1 < (l1.length : Int) then (if 0 ≤ a0_2 then (if a0_2 < (l1.length : Int) then (some (a0_0, rd l1 a0_1, rd l1 a0_2)) else (none)) else (none)) else (none)) else (none)) else (some (a0_0, a0_1, a0_2))) = some (r1, r2, r3) := H
 have A3 := Aside0.mk A30
 clear A30
 by_cases c4 : t329 = true
 rotate_left
 ·replace c4 := Bool.eq_false_iff.mpr c4
  subst c4
  have H1 : (some (a0_0, a0_1, a0_2)) = some (r1, r2, r3) := by rw [if_neg (show ¬ (false = true) by decide)] at H; exact H
  clear H
  have H := H1
  clear H1
  simp only [Option.some.injEq, Prod.mk.injEq] at H
  obtain ⟨rfl, rfl, rfl⟩ := H
  go_enter Try.func107, Try.ntmps107
  go_wp2_with (first | ((with_reducible refine gate_dst (N := 2) rfl ?_); refine zbx 2 #[.int .i8 a0_0, .int .i16 a0_1, .int .i16 a0_2] 81 ?_; intro gb327 hg w16 hbox hb; have n_ : _ ∧ _ ∧ _ ∧ _ := ⟨zb HB hb, Aside0.mk (hbox), zg HB hg, zg HB hg⟩; clear HB; obtain ⟨HB, BK327, GW327, GE327⟩ := n_; clear hb hbox hg) | ((with_reducible refine gate_dst (N := 4) rfl ?_); refine zbx 4 #[.int .i8 0, .int .i16 0, .int .i16 0] 81 ?_; intro gb328 hg w17 hbox hb; have n_ : _ ∧ _ ∧ _ ∧ _ ∧ _ ∧ _ ∧ _ := ⟨zk BK327 hb, zbs hb, Aside0.mk (hbox), zg HB hg, zg HB hg, zn1 BK327 hg, zn2 BK327 hg⟩; clear BK327 HB; obtain ⟨BK327, HB, BK328, GW328, GE328, NB327_328, NB328_327⟩ := n_; clear hb hbox hg; have hnb18 := NB327_328.out; have hnc18 := NB328_327.out; obtain ⟨z19_0, z19_1, z19_2, y19_0, y19_1, y19_2⟩ := zB3 BK327) | ((with_reducible refine gate_callee (f := 133) rfl ?_); refine goesL_ (some 6) rfl rfl Try.func133 (by kernel_rfl) rfl #[.agg #[.int .i8 a0_0, .int .i16 a0_1, .int .i16 a0_2]] rfl zm ?_; (with_reducible refine (impl_Node_inner.calls a0_0 a0_1 a0_2 false _ A3.out).mono ?_); rintro e w20 ⟨rfl, hb⟩; refine ⟨_, rfl, ?_⟩; have n_ : _ ∧ _ ∧ _ := ⟨zk BK327 hb, zk BK328 hb, zbs hb⟩; clear BK327 BK328 HB; obtain ⟨BK327, BK328, HB⟩ := n_; (try clear hb); (try clear hb2); (try clear hk); (try clear hi); obtain ⟨z21_0, z21_1, z21_2, y21_0, y21_1, y21_2⟩ := zB3 BK327; obtain ⟨z22_0, z22_1, z22_2, y22_0, y22_1, y22_2⟩ := zB3 BK328))
  refine bodyPost_ret (results_cell_row rfl _ _ gb328 81 #[.int .i8 a0_0, .int .i16 a0_1, .int .i16 a0_2] (0, 0) _ rfl (zp BK328) Try.underlying81 rfl (by kernel_rfl)) rfl ?_
  exact ⟨zv, zbo⟩
 subst c4
 have H1 : (if 0 ≤ a0_1 then (if a0_1 < (l1.length : Int) then (if 0 ≤ a0_2 then (if a0_2 < (l1.length : Int) then (some (a0_0, rd l1 a0_1, rd l1 a0_2)) else (none)) else (none)) else (none)) else (none)) = some (r1, r2, r3) := by rw [if_pos rfl] at H; exact H
 clear H
 have H := H1
 clear H1
 by_cases c5 : 0 ≤ a0_1
 rotate_left
 ·rw [if_neg c5] at H
  exact absurd H (by simp)
 rw [if_pos c5] at H
 have c5b0 : decide (0 ≤ a0_1) = true := decide_eq_true c5
 clear c5
 by_cases c6 : a0_1 < (l1.length : Int)
 rotate_left
 ·rw [if_neg c6] at H
  exact absurd H (by simp)
 rw [if_pos c6] at H
 have c6b0 : decide (a0_1 < (l1.length : Int)) = true := decide_eq_true c6
 clear c6
 by_cases c7 : 0 ≤ a0_2
 rotate_left
 ·rw [if_neg c7] at H
  exact absurd H (by simp)
 rw [if_pos c7] at H
 have c7b0 : decide (0 ≤ a0_2) = true := decide_eq_true c7
 clear c7
 by_cases c8 : a0_2 < (l1.length : Int)
 rotate_left
 ·rw [if_neg c8] at H
  exact absurd H (by simp)
 rw [if_pos c8] at H
 have c8b0 : decide (a0_2 < (l1.length : Int)) = true := decide_eq_true c8
 clear c8
 simp only [Option.some.injEq, Prod.mk.injEq] at H
 obtain ⟨rfl, rfl, rfl⟩ := H
 go_enter Try.func107, Try.ntmps107
 go_wp2_with (first | ((with_reducible refine gate_dst (N := 2) rfl ?_); refine zbx 2 #[.int .i8 a0_0, .int .i16 a0_1, .int .i16 a0_2] 81 ?_; intro gb327 hg w9 hbox hb; have n_ : _ ∧ _ ∧ _ ∧ _ := ⟨zb HB hb, Aside0.mk (hbox), zg HB hg, zg HB hg⟩; clear HB; obtain ⟨HB, BK327, GW327, GE327⟩ := n_; clear hb hbox hg) | ((with_reducible refine gate_dst (N := 4) rfl ?_); refine zbx 4 #[.int .i8 0, .int .i16 0, .int .i16 0] 81 ?_; intro gb328 hg w10 hbox hb; have n_ : _ ∧ _ ∧ _ ∧ _ ∧ _ ∧ _ ∧ _ := ⟨zk BK327 hb, zbs hb, Aside0.mk (hbox), zg HB hg, zg HB hg, zn1 BK327 hg, zn2 BK327 hg⟩; clear BK327 HB; obtain ⟨BK327, HB, BK328, GW328, GE328, NB327_328, NB328_327⟩ := n_; clear hb hbox hg; have hnb11 := NB327_328.out; have hnc11 := NB328_327.out; obtain ⟨z12_0, z12_1, z12_2, y12_0, y12_1, y12_2⟩ := zB3 BK327) | ((with_reducible refine gate_callee (f := 133) rfl ?_); refine goesL_ (some 6) rfl rfl Try.func133 (by kernel_rfl) rfl #[.agg #[.int .i8 a0_0, .int .i16 a0_1, .int .i16 a0_2]] rfl zm ?_; (with_reducible refine (impl_Node_inner.calls a0_0 a0_1 a0_2 true _ A3.out).mono ?_); rintro e w13 ⟨rfl, hb⟩; refine ⟨_, rfl, ?_⟩; have n_ : _ ∧ _ ∧ _ := ⟨zk BK327 hb, zk BK328 hb, zbs hb⟩; clear BK327 BK328 HB; obtain ⟨BK327, BK328, HB⟩ := n_; (try clear hb); (try clear hb2); (try clear hk); (try clear hi); obtain ⟨z14_0, z14_1, z14_2, y14_0, y14_1, y14_2⟩ := zB3 BK327; have p330 : 0 ≤ (a0_1 : Int) := of_decide_eq_true zA; have q330 : a0_1 < (l1.length : Int) := of_decide_eq_true zA; obtain ⟨ad330, e330, hx330_0⟩ := Kd.at_int HR1.out a0_1 p330 q330; cases e330; have hxw_ := hx330_0; replace hx330_0 := zc HB hx330_0; replace p330 := eq_true p330; replace q330 := eq_true q330; have p331 : 0 ≤ (a0_2 : Int) := of_decide_eq_true zA; have q331 : a0_2 < (l1.length : Int) := of_decide_eq_true zA; obtain ⟨ad331, e331, hx331_0⟩ := Kd.at_int HR1.out a0_2 p331 q331; obtain rfl : ad330 = ad331 := (by injection e331); have hxv_ := hx331_0; replace hx331_0 := zc HB hx331_0; replace p331 := eq_true p331; replace q331 := eq_true q331; obtain ⟨z15_0, z15_1, z15_2, y15_0, y15_1, y15_2⟩ := zB3 BK328))
 have NF_ : gb327 ≠ (ad330.add (a0_1 : Int).toNat).block := by have h1 := World.block_lt_of_cell? w _ hxw_; have h2 := GE327.out; omega
 have NG_ : gb327 ≠ (ad330.add (a0_2 : Int).toNat).block := by have h1 := World.block_lt_of_cell? w _ hxv_; have h2 := GE327.out; omega
 clear hxw_ hxv_
 have B7 : Aside0 (w13.drew.heap[gb327]? = some (.cells #[.int .i8 a0_0, .int .i16 a0_1, .int .i16 a0_2] 81 (0, 0))) := ⟨blk_drew BK327.out⟩
 have B8 : Aside0 (w13.drew.heap[gb328]? = some (.cells #[.int .i8 0, .int .i16 0, .int .i16 0] 81 (0, 0))) := ⟨blk_drew BK328.out⟩
 have HB7 : Aside0 (Below w.heap.size w w13.drew) := ⟨below_drew1 HB.out⟩
 refine start_ (n := 14) (S := fun w' => w'.cell? (ad330.add (a0_1 : Int).toNat) = some (.int .i16 (rd l1 a0_1)) ∧ w'.cell? (ad330.add (a0_2 : Int).toNat) = some (.int .i16 (rd l1 a0_2))) (ds := []) (zq 14 0) (by kernel_rfl) rfl rfl ⟨hx330_0, hx331_0⟩ (fun hHeld => ?_); refine with_tabW impl_Node_renamed.tab2 impl_Node_renamed.bits2 (fun HT_ HW_ => ?_)
 clear BK327 BK328 HB hx330_0 hx331_0 z14_0 y14_0 z14_1 y14_1 z14_2 y14_2 z15_0 y15_0 z15_1 y15_1 z15_2 y15_2
 generalize w13.drew = w14 at B7 B8 HB7 hHeld ⊢
 have BK327 := B7
 have BK328 := B8
 have HB := HB7
 clear B7 B8 HB7
 have z14_0 : w14.cell? ⟨gb327, 0, none⟩ = some (.int .i8 a0_0) := (blk_cell BK327.out 0).trans rfl
 have z15_0 : w14.cell? ⟨gb328, 0, none⟩ = some (.int .i8 0) := (blk_cell BK328.out 0).trans rfl
 have z14_1 : w14.cell? ⟨gb327, 1, none⟩ = some (.int .i16 a0_1) := (blk_cell BK327.out 1).trans rfl
 have z15_1 : w14.cell? ⟨gb328, 1, none⟩ = some (.int .i16 0) := (blk_cell BK328.out 1).trans rfl
 have z14_2 : w14.cell? ⟨gb327, 2, none⟩ = some (.int .i16 a0_2) := (blk_cell BK327.out 2).trans rfl
 have z15_2 : w14.cell? ⟨gb328, 2, none⟩ = some (.int .i16 0) := (blk_cell BK328.out 2).trans rfl
 have y14_0 := blk_frozen BK327.out 0
 have y15_0 := blk_frozen BK328.out 0
 have y14_1 := blk_frozen BK327.out 1
 have y15_1 := blk_frozen BK328.out 1
 have y14_2 := blk_frozen BK327.out 2
 have y15_2 := blk_frozen BK328.out 2
 refine zpu 0 (some 7) (zq 14 1) HT_ ?_
 refine zpu 1 (some 8) (zq 14 3) HT_ ?_
 refine zpu 5 (some 12) (zq 14 35) HT_ ?_
 refine zpu 6 (some 13) (zq 14 99) HT_ ?_
 refine two_ (i := 2) (j := 7) (Ni := some 9) (Nj := some 14) (zq 14 103) (zq 14 227) rfl rfl rfl rfl (two_of HT_.out (by kernel_rfl)) (by simp) (by simp) (fun K hK => ?_) (fun K hK => ?_)
 rotate_left
 ·refine value_ (w1 := ?_) (v := ?_) (by rfl) rfl ?_ ?_
  rotate_left 2
  ·go_simp
   constructor
   rotate_left
   ·rfl
   rfl
  refine hK.out _ _ hHeld (fun hHeld => ?_)
  clear hK K
  refine norm_ (a' := ?_) ?_ ?_
  rotate_left
  ·show Act.put _ (some 14) _ = _
   exact zap
  refine zpu 8 (some 15) (zq 14 483) HT_ ?_
  refine ztk 9 (some 16) (zq 14 995) HT_ HW_ rfl hHeld (Or.inl ⟨by rfl, by (rintro w' ⟨s0, s1⟩; go_simp; with_reducible rfl)⟩) ?_
  refine one_ (i := 2) (N := some 9) (zq 14 999) rfl rfl (one_of HT_.out (by kernel_rfl)) (by simp) (fun K hK => ?_)
  refine value_ (w1 := ?_) (v := ?_) (by rfl) rfl ?_ ?_
  rotate_left 2
  ·go_simp
   constructor
   rotate_left
   ·rfl
   rfl
  refine hK.out _ _ hHeld (fun hHeld => ?_)
  clear hK K
  refine norm_ (a' := ?_) ?_ ?_
  rotate_left
  ·show Act.put _ (some 9) _ = _
   exact zap
  refine zpu 3 (some 10) (zq 14 1007) HT_ ?_
  refine ztk 4 (some 11) (zq 14 1023) HT_ HW_ rfl hHeld (Or.inl ⟨by rfl, by (rintro w' ⟨s0, s1⟩; go_simp; with_reducible rfl)⟩) ?_
  refine zpu 10 (some 17) (zq 14 2047) HT_ ?_
  refine one_ (i := 11) (N := none) (zq 14 4095) rfl rfl (one_of HT_.out (by kernel_rfl)) (by simp) (fun K hK => ?_)
  refine skip_ (w1 := ?_) (by rfl) rfl ?_ ?_
  rotate_left
  ·go_simp
   rfl
  refine hK.out _ _ ⟨(World.cell?_setCell_far _ _ _ _ NF_).trans hHeld.1, (World.cell?_setCell_far _ _ _ _ NG_).trans hHeld.2⟩ (fun hHeld => ?_)
  clear hK K
  refine zpu 12 (some 18) (zq 14 8191) HT_ ?_
  refine one_ (i := 13) (N := none) (zq 14 16383) rfl rfl (one_of HT_.out (by kernel_rfl)) (by simp) (fun K hK => ?_)
  refine skip_ (w1 := ?_) (by rfl) rfl ?_ ?_
  rotate_left
  ·go_simp
   rfl
  refine hK.out _ _ ⟨(World.cell?_setCell_far _ _ _ _ NF_).trans hHeld.1, (World.cell?_setCell_far _ _ _ _ NG_).trans hHeld.2⟩ (fun hHeld => ?_)
  clear hK K
  refine done_ (done_of HT_.out (by kernel_rfl)) ?_
  clear hHeld HT_ HW_
  try go_wp2_with (first | fail)
  refine bodyPost_ret (results_cell_row rfl _ _ gb328 81 #[.int .i8 a0_0, .int .i16 (rd l1 a0_1), .int .i16 (rd l1 a0_2)] (0, 0) _ rfl (by (with_reducible repeat (first | refine blk_drewN ?_ _ | refine blk_drew ?_ | refine blk_alloc ?_ _)); refine blk_put (cs := #[.int .i8 a0_0, .int .i16 (rd l1 a0_1), .int .i16 0]) ?_ 2 _ rfl; (with_reducible repeat (first | refine blk_drewN ?_ _ | refine blk_drew ?_ | refine blk_alloc ?_ _)); refine blk_put (cs := #[.int .i8 a0_0, .int .i16 0, .int .i16 0]) ?_ 1 _ rfl; (with_reducible repeat (first | refine blk_drewN ?_ _ | refine blk_drew ?_ | refine blk_alloc ?_ _)); refine blk_put (cs := #[.int .i8 0, .int .i16 0, .int .i16 0]) ?_ 0 _ rfl; (with_reducible repeat (first | refine blk_drewN ?_ _ | refine blk_drew ?_ | refine blk_alloc ?_ _)); refine blk_far ?_ NB328_327.out _; (with_reducible repeat (first | refine blk_drewN ?_ _ | refine blk_drew ?_ | refine blk_alloc ?_ _)); refine blk_far ?_ NB328_327.out _; (with_reducible repeat (first | refine blk_drewN ?_ _ | refine blk_drew ?_ | refine blk_alloc ?_ _)); exact BK328.out) Try.underlying81 rfl (by kernel_rfl)) rfl ?_
  exact ⟨zv, zbo⟩
 refine value_ (w1 := ?_) (v := ?_) (by rfl) rfl ?_ ?_
 rotate_left 2
 ·go_simp
  constructor
  rotate_left
  ·rfl
  rfl
 refine hK.out _ _ hHeld (fun hHeld => ?_)
 clear hK K
 refine norm_ (a' := ?_) ?_ ?_
 rotate_left
 ·show Act.put _ (some 9) _ = _
  exact zap
 refine zpu 3 (some 10) (zq 14 111) HT_ ?_
 refine ztk 4 (some 11) (zq 14 127) HT_ HW_ rfl hHeld (Or.inl ⟨by rfl, by (rintro w' ⟨s0, s1⟩; go_simp; with_reducible rfl)⟩) ?_
 refine one_ (i := 7) (N := some 14) (zq 14 255) rfl rfl (one_of HT_.out (by kernel_rfl)) (by simp) (fun K hK => ?_)
 refine value_ (w1 := ?_) (v := ?_) (by rfl) rfl ?_ ?_
 rotate_left 2
 ·go_simp
  constructor
  rotate_left
  ·rfl
  rfl
 refine hK.out _ _ hHeld (fun hHeld => ?_)
 clear hK K
 refine norm_ (a' := ?_) ?_ ?_
 rotate_left
 ·show Act.put _ (some 14) _ = _
  exact zap
 refine zpu 8 (some 15) (zq 14 511) HT_ ?_
 refine ztk 9 (some 16) (zq 14 1023) HT_ HW_ rfl hHeld (Or.inl ⟨by rfl, by (rintro w' ⟨s0, s1⟩; go_simp; with_reducible rfl)⟩) ?_
 refine zpu 10 (some 17) (zq 14 2047) HT_ ?_
 refine one_ (i := 11) (N := none) (zq 14 4095) rfl rfl (one_of HT_.out (by kernel_rfl)) (by simp) (fun K hK => ?_)
 refine skip_ (w1 := ?_) (by rfl) rfl ?_ ?_
 rotate_left
 ·go_simp
  rfl
 refine hK.out _ _ ⟨(World.cell?_setCell_far _ _ _ _ NF_).trans hHeld.1, (World.cell?_setCell_far _ _ _ _ NG_).trans hHeld.2⟩ (fun hHeld => ?_)
 clear hK K
 refine zpu 12 (some 18) (zq 14 8191) HT_ ?_
 refine one_ (i := 13) (N := none) (zq 14 16383) rfl rfl (one_of HT_.out (by kernel_rfl)) (by simp) (fun K hK => ?_)
 refine skip_ (w1 := ?_) (by rfl) rfl ?_ ?_
 rotate_left
 ·go_simp
  rfl
 refine hK.out _ _ ⟨(World.cell?_setCell_far _ _ _ _ NF_).trans hHeld.1, (World.cell?_setCell_far _ _ _ _ NG_).trans hHeld.2⟩ (fun hHeld => ?_)
 clear hK K
 refine done_ (done_of HT_.out (by kernel_rfl)) ?_
 clear hHeld HT_ HW_
 try go_wp2_with (first | fail)
 refine bodyPost_ret (results_cell_row rfl _ _ gb328 81 #[.int .i8 a0_0, .int .i16 (rd l1 a0_1), .int .i16 (rd l1 a0_2)] (0, 0) _ rfl (by (with_reducible repeat (first | refine blk_drewN ?_ _ | refine blk_drew ?_ | refine blk_alloc ?_ _)); refine blk_put (cs := #[.int .i8 a0_0, .int .i16 (rd l1 a0_1), .int .i16 0]) ?_ 2 _ rfl; (with_reducible repeat (first | refine blk_drewN ?_ _ | refine blk_drew ?_ | refine blk_alloc ?_ _)); refine blk_put (cs := #[.int .i8 a0_0, .int .i16 0, .int .i16 0]) ?_ 1 _ rfl; (with_reducible repeat (first | refine blk_drewN ?_ _ | refine blk_drew ?_ | refine blk_alloc ?_ _)); refine blk_put (cs := #[.int .i8 0, .int .i16 0, .int .i16 0]) ?_ 0 _ rfl; (with_reducible repeat (first | refine blk_drewN ?_ _ | refine blk_drew ?_ | refine blk_alloc ?_ _)); refine blk_far ?_ NB328_327.out _; (with_reducible repeat (first | refine blk_drewN ?_ _ | refine blk_drew ?_ | refine blk_alloc ?_ _)); refine blk_far ?_ NB328_327.out _; (with_reducible repeat (first | refine blk_drewN ?_ _ | refine blk_drew ?_ | refine blk_alloc ?_ _)); exact BK328.out) Try.underlying81 rfl (by kernel_rfl)) rfl ?_
 exact ⟨zv, zbo⟩
end Go.Proofs.Ytmpmanfoiocfgaa.PFnExactBothNetworks
