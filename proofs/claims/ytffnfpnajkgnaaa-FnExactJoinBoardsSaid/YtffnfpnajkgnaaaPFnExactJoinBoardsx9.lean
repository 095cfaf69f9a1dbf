-- WRITTEN by xprint.py, a program of this session's. Not trusted: Lean checks it.
-- packed by pack.py
import Derived.Test.YtffnfpnajkgnaaaPFnExactJoinBoardsx0
import Derived.Test.YtffnfpnajkgnaaaPFnExactJoinBoardsx8
import Derived.Test.YtffnfpnajkgnaaaTFnExactJoinBoardsa
namespace Go.Proofs.Ytffnfpnajkgnaaa.PFnExactJoinBoards
open Go.RowKit Go.Proofs.YtffnfpnajkgnaaaW.PrintWords Go.Proofs.YtffnfpnajkgnaaaW.PrintLast Go.Proofs.YtffnfpnajkgnaaaW.PrintMore Go.Proofs.YtffnfpnajkgnaaaX
attribute [local go_sem] max2_int min2_int max_two min_two max_three min_three max_four min_four   -- for this text's walks alone
set_option maxHeartbeats 8000000
set_option maxRecDepth 100000
set_option linter.unusedVariables false
set_option linter.unusedSimpArgs false

def slices_IndexFunc__impl_Board_at_1.l0 : Nat → List (S91) → Int → Int → List (S74) → Option (Int)
  | 0, _, _, _, _ => none
  | k + 1, x0, x7, x8, x2000 => if x8 < x7 then (if 0 ≤ x8 then (if x8 < (x0.length : Int) then ((impl_Board_at_1.f ((rd_T91 x0 x8).f0.f0) ((rd_T91 x0 x8).f0.f1) ((rd_T91 x0 x8).f1) ((rd_T91 x0 x8).f2) ((rd_T91 x0 x8).f3) x2000).bind fun t226 => (if t226 = true then (some x8) else (slices_IndexFunc__impl_Board_at_1.l0 k x0 x7 (wrap64 (x8 + 1)) x2000))) else (none)) else (none)) else (some (-1))
def slices_IndexFunc__impl_Board_at_1.f (k : Nat) (l0 : List (S91)) (l1_0 : List (S74)) : Option (Int) := slices_IndexFunc__impl_Board_at_1.l0 k l0 (l0.length : Int) 0 l1_0
theorem slices_IndexFunc__impl_Board_at_1.mono_l : ∀ k, (∀ y0 y1 y2 y3, LeO (slices_IndexFunc__impl_Board_at_1.l0 k y0 y1 y2 y3) (slices_IndexFunc__impl_Board_at_1.l0 (k + 1) y0 y1 y2 y3))
  | 0 => fun _ _ _ _ r h => by simp [slices_IndexFunc__impl_Board_at_1.l0] at h
  | k + 1 => by
    have ih0 := slices_IndexFunc__impl_Board_at_1.mono_l k
    · intro y0 y1 y2 y3
      unfold slices_IndexFunc__impl_Board_at_1.l0
      repeat' first | (with_reducible first | apply ih0 | exact LeO.refl _ | exact LeO.none _ | refine LeO.ite ?_ ?_ | refine LeO.bind ?_ (fun _ => ?_)) | apply ih0 | exact LeO.none _ | refine LeO.ite ?_ ?_ | refine LeO.bind ?_ (fun _ => ?_)
theorem slices_IndexFunc__impl_Board_at_1.mono : ∀ a0 a1 k, LeO (slices_IndexFunc__impl_Board_at_1.f k a0 a1) (slices_IndexFunc__impl_Board_at_1.f (k + 1) a0 a1) := by
 intro a0 a1 k
 have ih0 := slices_IndexFunc__impl_Board_at_1.mono_l k
 unfold slices_IndexFunc__impl_Board_at_1.f
 repeat' first | (with_reducible first | apply ih0 | exact LeO.refl _ | exact LeO.none _ | refine LeO.ite ?_ ?_ | refine LeO.bind ?_ (fun _ => ?_)) | apply ih0 | exact LeO.none _ | refine LeO.ite ?_ ?_ | refine LeO.bind ?_ (fun _ => ?_)
theorem slices_IndexFunc__impl_Board_at_1.calls (k : Nat) (A0 : Option Addr) (c0 : Nat) (l0 : List (S91)) (adp1_0 : Addr) (l1_0 : List (S74)) (r : Int) (w : World) (hr0 : Kd.C k91 w A0 l0.length l0) (hc0 : l0.length ≤ c0) (hr1_0 : Kd.C k74 w (some adp1_0) l1_0.length l1_0) (h : slices_IndexFunc__impl_Board_at_1.f k l0 l1_0 = some r) :
    Calls Try.prog 170 #[.slice A0 l0.length c0, .func (.func 171) #[] #[.pointer (some adp1_0)]] w fun e w' => e = .returned (.int .i64 r) ∧ Below w.heap.size w w' := by
 have hu91 := Try.underlying91
 have HR0 := Aside0.mk hr0
 have HC0 := Aside0.mk hc0
 clear hr0 hc0
 have HR1_0 := Aside0.mk hr1_0
 clear hr1_0
 have HB := Aside0.mk (Below.refl w.heap.size w)
 have H : (slices_IndexFunc__impl_Board_at_1.l0 k l0 (l0.length : Int) 0 l1_0) = some r := h
 clear h
 have H' := Aside0.mk H
 clear H
 go_enter Try.func170, Try.ntmps170
 go_wp2
 go_loopg [8] k (fun kq v8 w' => ∃ (x8_1 : Int), v8 = .int .i64 x8_1 ∧ Aside0 (slices_IndexFunc__impl_Board_at_1.l0 kq l0 (l0.length : Int) x8_1 l1_0 = some r) ∧ Aside0 (kq ≤ k) ∧ Aside0 (Below w.heap.size w w'))
 case atStart => exact ⟨(0), zi, H', ⟨Nat.le_refl _⟩, zl HB⟩
 clear H'
 try clear c2
 try clear p2
 obtain ⟨x8_1, rfl, HA, HK1, HB⟩ := hrel
 cases gk with
 | zero => exact absurd HA.out (by simp [slices_IndexFunc__impl_Board_at_1.l0])
 | succ k1 => ?_
 have H := HA.out
 clear HA
 simp only [slices_IndexFunc__impl_Board_at_1.l0] at H
 by_cases c3 : x8_1 < (l0.length : Int)
 rotate_left
 ·rw [if_neg c3] at H
  have c3b0 : decide (x8_1 < (l0.length : Int)) = false := decide_eq_false c3
  clear c3
  obtain rfl := Option.some.inj H
  go_wp2
  go_ret
  exact ⟨zv, zbo⟩
 rw [if_pos c3] at H
 have c3b0 : decide (x8_1 < (l0.length : Int)) = true := decide_eq_true c3
 clear c3
 by_cases c4 : 0 ≤ x8_1
 rotate_left
 ·rw [if_neg c4] at H
  exact absurd H (by simp)
 rw [if_pos c4] at H
 have c4b0 : decide (0 ≤ x8_1) = true := decide_eq_true c4
 clear c4
 by_cases c5 : x8_1 < (l0.length : Int)
 rotate_left
 ·rw [if_neg c5] at H
  exact absurd H (by simp)
 rw [if_pos c5] at H
 have c5b0 : decide (x8_1 < (l0.length : Int)) = true := decide_eq_true c5
 clear c5
 replace H := zob H
 obtain ⟨t226, A60, H⟩ := H
 replace H : (if t226 = true then (some x8_1) else (slices_IndexFunc__impl_Board_at_1.l0 k1 l0 (l0.length : Int) (wrap64 (x8_1 + 1)) l1_0)) = some r := H
 have A6 := Aside0.mk A60
 clear A60
 by_cases c7 : t226 = true
 ·subst c7
  have H1 : (some x8_1) = some r := by rw [if_pos rfl] at H; exact H
  clear H
  have H := H1
  clear H1
  obtain rfl := Option.some.inj H
  have p225 : 0 ≤ (x8_1 : Int) := of_decide_eq_true zA
  have q225 : x8_1 < (l0.length : Int) := of_decide_eq_true zA
  obtain ⟨ad225, e225, hx225_0, hx225_1, hx225_2, hx225_3, hx225_4⟩ := at_T91 HR0.out x8_1 p225 q225
  cases e225
  replace hx225_0 := zc HB hx225_0
  replace hx225_1 := zc HB hx225_1
  replace hx225_2 := zc HB hx225_2
  replace hx225_3 := zc HB hx225_3
  replace hx225_4 := zc HB hx225_4
  replace p225 := eq_true p225
  replace q225 := eq_true q225
  go_wp2_with (first | (go_at_call 171; (with_reducible refine (impl_Board_at_1.calls ((rd_T91 l0 x8_1).f0.f0) ((rd_T91 l0 x8_1).f0.f1) ((rd_T91 l0 x8_1).f1) ((rd_T91 l0 x8_1).f2) ((rd_T91 l0 x8_1).f3) _ l1_0 true _ ?side1 A6.out).mono ?_); (case side1 => exact zcc HB HR1_0.out); rintro e w8 ⟨rfl, hb⟩; have n0_ := zb HB hb; clear HB; have HB := n0_; clear n0_; (try clear hb); (try clear hb2); (try clear hk); (try clear hi)))
  go_ret
  exact ⟨zv, zbo⟩
 replace c7 := Bool.eq_false_iff.mpr c7
 subst c7
 have H1 : (slices_IndexFunc__impl_Board_at_1.l0 k1 l0 (l0.length : Int) (wrap64 (x8_1 + 1)) l1_0) = some r := by rw [if_neg (show ¬ (false = true) by decide)] at H; exact H
 clear H
 have H := H1
 clear H1
 have H' := Aside0.mk H
 clear H
 have p225 : 0 ≤ (x8_1 : Int) := of_decide_eq_true zA
 have q225 : x8_1 < (l0.length : Int) := of_decide_eq_true zA
 obtain ⟨ad225, e225, hx225_0, hx225_1, hx225_2, hx225_3, hx225_4⟩ := at_T91 HR0.out x8_1 p225 q225
 cases e225
 replace hx225_0 := zc HB hx225_0
 replace hx225_1 := zc HB hx225_1
 replace hx225_2 := zc HB hx225_2
 replace hx225_3 := zc HB hx225_3
 replace hx225_4 := zc HB hx225_4
 replace p225 := eq_true p225
 replace q225 := eq_true q225
 go_wp2_with (first | (go_at_call 171; (with_reducible refine (impl_Board_at_1.calls ((rd_T91 l0 x8_1).f0.f0) ((rd_T91 l0 x8_1).f0.f1) ((rd_T91 l0 x8_1).f1) ((rd_T91 l0 x8_1).f2) ((rd_T91 l0 x8_1).f3) _ l1_0 false _ ?side1 A6.out).mono ?_); (case side1 => exact zcc HB HR1_0.out); rintro e w9 ⟨rfl, hb⟩; have n0_ := zb HB hb; clear HB; have HB := n0_; clear n0_; (try clear hb); (try clear hb2); (try clear hk); (try clear hi)))
 go_roundg k1
 case measure => have := HK1.out; omega
 case rel => exact ⟨(wrap64 (x8_1 + 1)), zi, H', ⟨by have := HK1.out; omega⟩, zl HB⟩
def impl_Board_at.f (k : Nat) (l0 : List (S37)) (a1_0 : Int) (a1_1 : Int) : Option (Int) := if 0 < (l0.length : Int) then ((slices_IndexFunc__impl_Board_at_1.f k ((rd_T37 l0 0).f2) [(⟨a1_0, a1_1⟩ : S74)]).bind fun t229 => (some t229)) else (none)
theorem impl_Board_at.mono : ∀ a0 a1 a2 k, LeO (impl_Board_at.f k a0 a1 a2) (impl_Board_at.f (k + 1) a0 a1 a2) := by
 intro a0 a1 a2 k
 unfold impl_Board_at.f
 repeat' first | (with_reducible first | apply slices_IndexFunc__impl_Board_at_1.mono | exact LeO.refl _ | exact LeO.none _ | refine LeO.ite ?_ ?_ | refine LeO.bind ?_ (fun _ => ?_)) | apply slices_IndexFunc__impl_Board_at_1.mono | exact LeO.none _ | refine LeO.ite ?_ ?_ | refine LeO.bind ?_ (fun _ => ?_)
theorem impl_Board_at.calls (k : Nat) (adp0 : Addr) (l0 : List (S37)) (a1_0 : Int) (a1_1 : Int) (r : Int) (w : World) (hr0 : Kd.C k37 w (some adp0) l0.length l0) (h : impl_Board_at.f k l0 a1_0 a1_1 = some r) :
    Calls Try.prog 119 #[.pointer (some adp0), .agg #[.int .i8 a1_0, .int .i8 a1_1]] w fun e w' => e = .returned (.int .i64 r) ∧ Below w.heap.size w w' := by
 have hu74 := Try.underlying74
 have HR0 := Aside0.mk hr0
 clear hr0
 have HB := Aside0.mk (Below.refl w.heap.size w)
 have H : (if 0 < (l0.length : Int) then ((slices_IndexFunc__impl_Board_at_1.f k ((rd_T37 l0 0).f2) [(⟨a1_0, a1_1⟩ : S74)]).bind fun t229 => (some t229)) else (none)) = some r := h
 clear h
 by_cases c3 : 0 < (l0.length : Int)
 rotate_left
 ·rw [if_neg c3] at H
  exact absurd H (by simp)
 rw [if_pos c3] at H
 have c3b0 : decide (0 < (l0.length : Int)) = true := decide_eq_true c3
 have c3b1 : decide (0 < l0.length) = true := decide_eq_true (by omega)
 clear c3
 replace H := zob H
 obtain ⟨t229, A40, H⟩ := H
 replace H : (some t229) = some r := H
 have A4 := Aside0.mk A40
 clear A40
 obtain rfl := Option.some.inj H
 go_enter Try.func119, Try.ntmps119
 go_wp2_with (first | ((with_reducible refine gate_dst (N := 3) rfl ?_); refine zbx 3 #[.int .i8 a1_0, .int .i8 a1_1] 74 ?_; intro gb227 hg w5 hbox hb; have n_ : _ ∧ _ ∧ _ ∧ _ := ⟨zb HB hb, Aside0.mk (hbox), zg HB hg, zg HB hg⟩; clear HB; obtain ⟨HB, BK227, GW227, GE227⟩ := n_; clear hb hbox hg; have p228 : 0 ≤ (0 : Int) := (by omega); have q228 : 0 < (l0.length : Int) := of_decide_eq_true zA; obtain ⟨ad228, A228_2, c228_2, e228, hx228_0, hx228_1, hx228_2, hl228_2, hi228_2⟩ := at_T37 HR0.out 0 p228 q228; obtain rfl : adp0 = ad228 := (by injection e228); have qi228 : (0 < l0.length) = True := eq_true (by omega); (try simp only [z00, Nat.zero_mul, Addr.add_zero'] at hx228_0 hx228_1 hx228_2); replace hx228_0 := zc HB hx228_0; replace hx228_1 := zc HB hx228_1; replace hx228_2 := zc HB hx228_2; have HR228_2 := Aside0.mk hi228_2; have HC228_2 := Aside0.mk hl228_2; clear hi228_2 hl228_2; replace p228 := eq_true p228; replace q228 := eq_true q228) | ((with_reducible refine gate_callee (f := 170) rfl ?_); refine goesL_ (some 10) rfl rfl Try.func170 (by kernel_rfl) rfl #[.slice A228_2 ((rd_T37 l0 0).f2).length c228_2, .func (.func 171) #[] #[.pointer (some ⟨gb227, 0, none⟩)]] rfl zm ?_; (with_reducible refine (slices_IndexFunc__impl_Board_at_1.calls k _ _ ((rd_T37 l0 0).f2) _ [(⟨a1_0, a1_1⟩ : S74)] t229 _ ?side1 ?side2 ?side3 A4.out).mono ?_); (case side1 => exact zcc HB HR228_2.out); (case side2 => exact HC228_2.out); (case side3 => refine ro_of_blk (T := 74) (cs := #[.int .i8 a1_0, .int .i8 a1_1]) (zh BK227).out ?_; exact k74_mk _ (⟨a1_0, a1_1⟩ : S74) ); rintro e w6 ⟨rfl, hb⟩; refine ⟨_, rfl, ?_⟩; have n_ : _ ∧ _ := ⟨zk BK227 hb, zbs hb⟩; clear BK227 HB; obtain ⟨BK227, HB⟩ := n_; (try clear hb); (try clear hb2); (try clear hk); (try clear hi)))
 go_ret
 exact ⟨zv, zbo⟩
def impl_JoinBoards_2.f (k : Nat) (a0_0 : Int) (a0_1 : Int) (a0_2 : Int) (a0_3 : Int) (a0_4 : Int) (l1 : List (S37)) : Option (Bool) := (impl_Board_at.f k l1 a0_0 a0_1).bind fun t231 => (some (decide (t231 ≥ 0)))
theorem impl_JoinBoards_2.mono : ∀ a0 a1 a2 a3 a4 a5 k, LeO (impl_JoinBoards_2.f k a0 a1 a2 a3 a4 a5) (impl_JoinBoards_2.f (k + 1) a0 a1 a2 a3 a4 a5) := by
 intro a0 a1 a2 a3 a4 a5 k
 unfold impl_JoinBoards_2.f
 repeat' first | (with_reducible first | apply impl_Board_at.mono | exact LeO.refl _ | exact LeO.none _ | refine LeO.ite ?_ ?_ | refine LeO.bind ?_ (fun _ => ?_)) | apply impl_Board_at.mono | exact LeO.none _ | refine LeO.ite ?_ ?_ | refine LeO.bind ?_ (fun _ => ?_)
theorem impl_JoinBoards_2.calls (k : Nat) (a0_0 : Int) (a0_1 : Int) (a0_2 : Int) (a0_3 : Int) (a0_4 : Int) (adp1 : Addr) (l1 : List (S37)) (r : Bool) (w : World) (hr1 : Kd.C k37 w (some adp1) l1.length l1) (h : impl_JoinBoards_2.f k a0_0 a0_1 a0_2 a0_3 a0_4 l1 = some r) :
    Calls Try.prog 141 #[.agg #[.int .i8 a0_0, .int .i8 a0_1, .int .i8 a0_2, .int .i8 a0_3, .int .i8 a0_4], .pointer (some adp1)] w fun e w' => e = .returned (.bool r) ∧ Below w.heap.size w w' := by
 have hu91 := Try.underlying91
 have hu74 := Try.underlying74
 have HR1 := Aside0.mk hr1
 clear hr1
 have HB := Aside0.mk (Below.refl w.heap.size w)
 have H : ((impl_Board_at.f k l1 a0_0 a0_1).bind fun t231 => (some (decide (t231 ≥ 0)))) = some r := h
 clear h
 replace H := zob H
 obtain ⟨t231, A30, H⟩ := H
 replace H : (some (decide (t231 ≥ 0))) = some r := H
 have A3 := Aside0.mk A30
 clear A30
 obtain rfl := Option.some.inj H
 go_enter Try.func141, Try.ntmps141
 go_wp2_with (first | ((with_reducible refine gate_dst (N := 2) rfl ?_); refine zbx 2 #[.int .i8 a0_0, .int .i8 a0_1, .int .i8 a0_2, .int .i8 a0_3, .int .i8 a0_4] 91 ?_; intro gb230 hg w4 hbox hb; have n_ : _ ∧ _ ∧ _ ∧ _ := ⟨zb HB hb, Aside0.mk (hbox), zg HB hg, zg HB hg⟩; clear HB; obtain ⟨HB, BK230, GW230, GE230⟩ := n_; clear hb hbox hg; obtain ⟨z5_0, z5_1, z5_2, z5_3, z5_4, y5_0, y5_1, y5_2, y5_3, y5_4⟩ := zB5 BK230) | ((with_reducible refine gate_callee (f := 119) rfl ?_); refine goesL_ (some 6) rfl rfl Try.func119 (by kernel_rfl) rfl #[.pointer (some adp1), .agg #[.int .i8 a0_0, .int .i8 a0_1]] rfl zm ?_; (with_reducible refine (impl_Board_at.calls k _ l1 a0_0 a0_1 t231 _ ?side1 A3.out).mono ?_); (case side1 => exact zcc HB HR1.out); rintro e w6 ⟨rfl, hb⟩; refine ⟨_, rfl, ?_⟩; have n_ : _ ∧ _ := ⟨zk BK230 hb, zbs hb⟩; clear BK230 HB; obtain ⟨BK230, HB⟩ := n_; (try clear hb); (try clear hb2); (try clear hk); (try clear hi)))
 go_ret
 exact ⟨zv, zbo⟩
theorem impl_Piece_178.zeros {P : Program} (w : World) (t tn ty e : TypeId) (i : TypeInfo) (z : Value) (k kn : IntKind) (ht : P.underlying t = some (.slice e)) (htn : P.underlying tn = some (.int kn)) (hi : P.info? e = some i) (hz : i.zero = some z)
    (n : Nat) (h0 : 0 < n) (hs : 0 < i.size) (h63 : (n : Int) ≤ 9223372036854775807) (h48 : n * i.bytes ≤ 281474976710656) :
    (Builtin.append_ #[t, tn] ty #[.slice none 0 0, .int k n]).run P w =
      .ok (.slice (some ⟨w.heap.size, 0, none⟩) n (grownCap w n 0 e)) (w.drew.alloc (.cells (Builtin.zeroCells z.cells n ++ Builtin.zeroCells z.cells (grownCap w n 0 e - n)) e)) := by
 have hn : n ≠ 0 := by omega
 have hw : IntKind.i64.wrap (n : Int) = n := by rw [IntKind.wrap_i64]; omega
 have h63' : ¬ (9223372036854775807 < (n : Int)) := by omega
 have h48' : ¬ (281474976710656 < Builtin.nextslicecap n 0 * i.bytes) := by rw [nextslicecap_zero h0]; omega
 have h48i : ¬ (281474976710656 < (n : Int) * (i.bytes : Int)) := by
  rw [← Int.natCast_mul]
  omega
 have hneg : ¬ ((n : Int) < 0) := by omega
 have hns : ¬ (n * i.size = 0) := Nat.mul_ne_zero hn (by omega)
 simp [Builtin.append_, run_underlying ht, run_underlying htn, sizeOf, typeInfo, zeroValue, hi, hz, asInt, asIntOf, hw, hn, hneg, hns, h63', h48', h48i, Question.forced, run_firstCells_none, newRow, grownCap]
theorem impl_Piece_178.arun {P : Program} (w : World) {ops : Array Oper} {rest : List Oper} {o : Oper} {a : Act} {Q : Exit → Act → World → Prop} (hgd : o.guard = none) (s x : Operand) (t tn : TypeId)
    (ho : o.op = .call { callee := .builtin .append, args := #[s, x], argTypes := #[t, tn] }) (vs vx : Value) (hs : a.eval s = vs) (hx : a.eval x = vx)
    (v' : Value) (w' : World) (hr : ∀ ty, (Builtin.append_ #[t, tn] ty #[vs, vx]).run P w = .ok v' w') (h : wpList P ops Q rest (a.put o.dst v') w') : wpList P ops Q (o :: rest) a w :=
  wpList_plain hgd fun _ hK => by
    unfold Oper.wp execOp
    simp only [ho, resolve, invoke, builtin, Sem.run_bind, Sem.run_pure, Result.andThen_ok, List.map_toArray, List.map_cons, List.map_nil, hs, hx, hr o.type]
    exact hK _ _ h
def impl_Piece_178.f (l0 : List (S91)) (a1 : Int) : Option (List (S91)) := if 0 ≤ a1 then (if a1 < 1000000000 then (some []) else (none)) else (none)
theorem impl_Piece_178.calls (A0 : Option Addr) (c0 : Nat) (l0 : List (S91)) (a1 : Int) (r : List (S91)) (w : World) (hr0 : Kd.C k91 w A0 l0.length l0) (hc0 : l0.length ≤ c0) (h : impl_Piece_178.f l0 a1 = some r) (hA : A0 = none := by rfl) (hC : c0 = 0 := by rfl) :
    Calls Try.prog 178 #[.slice A0 l0.length c0, .int .i64 a1] w fun e w' => ∃ v0_ : Value, e = .returned (v0_) ∧ Kd.R k91 91 w' w.heap.size (fun _ => True) v0_ r ∧ Below w.heap.size w w' := by
 subst hA hC
 obtain rfl : l0 = [] := List.eq_nil_of_length_eq_zero (by omega)
 clear hr0 hc0
 unfold impl_Piece_178.f at h
 by_cases c1 : 0 ≤ a1
 rotate_left
 ·rw [if_neg c1] at h; cases h
 by_cases c2 : a1 < 1000000000
 rotate_left
 ·rw [if_pos c1, if_neg c2] at h; cases h
 rw [if_pos c1, if_pos c2] at h
 obtain rfl := Option.some.inj h
 clear h
 obtain ⟨n, rfl⟩ := Int.eq_ofNat_of_zero_le c1
 have hn1 : ¬ ((n : Int) < 0) := by omega
 have hn2 : wrap64 (n : Int) = (n : Int) := by unfold wrap64; omega
 by_cases h0 : n = 0
 ·subst h0
  go_enter Try.func178, Try.ntmps178
  go_wp2
  go_ret
  exact ⟨_, rfl, Kd.R_nil _ _ _ _ _, Below.refl _ _⟩
 have hp : (0 : Int) < (n : Int) := by omega
 have hp2 : ((n : Int) > 0) := by omega
 obtain ⟨i0, hi, hzz⟩ := Option.map_eq_some_iff.1 info91
 simp only [Prod.mk.injEq] at hzz
 obtain ⟨hz0, hz1, hz2⟩ := hzz
 have hrun := fun (W : World) (ty : TypeId) => impl_Piece_178.zeros (P := Try.prog) W 35 3 ty 91 i0 (.agg #[(.int .i8 0), (.int .i8 0), (.int .i8 0), (.int .i8 0), (.int .i8 0)]) .i64 .i64 Try.underlying35 Try.underlying3 hi hz0 n (by omega) (by omega) (by omega) (by rw [hz2]; omega)
 have HZ := Aside0.mk hrun
 have HI := Aside0.mk (And.intro hz0 (And.intro hz1 hz2))
 have HN := Aside0.mk hn2
 have HC2 := Aside0.mk c2
 clear hrun hi hz0 hz1 hz2 c1 c2
 go_enter Try.func178, Try.ntmps178
 go_wp2_with (at_builtin; refine impl_Piece_178.arun _ rfl _ _ 35 3 rfl (.slice none 0 0) (.int .i64 n) rfl (congrArg (Value.int .i64) HN.out) _ _ (HZ.out _) ?_)
 go_ret
 refine ⟨_, rfl, ⟨fun _ _ => trivial, [], ⟨rfl, .inr ⟨w.heap.size, grownCap w n 0 91, _, rfl, Nat.le_refl _, heap_alloc_new w.drew _, Nat.zero_le _, grownCap_le_maxLen w n 0 91 (by have := HC2.out; simp only [maxLen]; omega), ?_, rfl⟩⟩, Reps.none _ _⟩, ?_⟩
 rotate_left
 ·exact below_alloc (below_drew1 (Below.refl _ _)) _
 have hg := grownCap_ge w n 0 91
 rw [Array.size_append, size_zeroCells, size_zeroCells, ← Nat.add_mul, Nat.add_sub_of_le hg]
 rfl
mutual
def impl_Piece_142.l0 : Nat → List (List (S91)) → Int → List (List (S91)) → Int → Int → Option ((List (S91)))
  | 0, _, _, _, _, _ => none
  | k + 1, x0, x3, x9, x10, x11 => if x11 < x10 then (if 0 ≤ x11 then (if x11 < (x9.length : Int) then (if (wrap64 (x3 + ((rd_L5 x9 x11).length : Int))) < 0 then (none) else (impl_Piece_142.l0 k x0 (wrap64 (x3 + ((rd_L5 x9 x11).length : Int))) x9 x10 (wrap64 (x11 + 1)))) else (none)) else (none)) else ((impl_Piece_178.f ([] : List (S91)) x3).bind fun t233 => (impl_Piece_142.l1 k t233 x0 (x0.length : Int) 0))
def impl_Piece_142.l1 : Nat → List (S91) → List (List (S91)) → Int → Int → Option ((List (S91)))
  | 0, _, _, _, _ => none
  | k + 1, x6, x25, x26, x27 => if x27 < x26 then (if 0 ≤ x27 then (if x27 < (x25.length : Int) then (if x6.length + (rd_L5 x25 x27).length < 28147497671065 then (impl_Piece_142.l1 k (x6 ++ (rd_L5 x25 x27)) x25 x26 (wrap64 (x27 + 1))) else (none)) else (none)) else (none)) else (some x6)
end
def impl_Piece_142.f (k : Nat) (l0 : List (List (S91))) : Option ((List (S91))) := impl_Piece_142.l0 k l0 0 l0 (l0.length : Int) 0
theorem impl_Piece_142.mono_l : ∀ k, (∀ y0 y1 y2 y3 y4, LeO (impl_Piece_142.l0 k y0 y1 y2 y3 y4) (impl_Piece_142.l0 (k + 1) y0 y1 y2 y3 y4)) ∧ (∀ y0 y1 y2 y3, LeO (impl_Piece_142.l1 k y0 y1 y2 y3) (impl_Piece_142.l1 (k + 1) y0 y1 y2 y3))
  | 0 => ⟨fun _ _ _ _ _ r h => by simp [impl_Piece_142.l0] at h, fun _ _ _ _ r h => by simp [impl_Piece_142.l1] at h⟩
  | k + 1 => by
    obtain ⟨ih0, ih1⟩ := impl_Piece_142.mono_l k
    refine ⟨?_, ?_⟩
    · intro y0 y1 y2 y3 y4
      unfold impl_Piece_142.l0
      repeat' first | (with_reducible first | apply ih0 | apply ih1 | exact LeO.refl _ | exact LeO.none _ | refine LeO.ite ?_ ?_ | refine LeO.bind ?_ (fun _ => ?_)) | apply ih0 | apply ih1 | exact LeO.none _ | refine LeO.ite ?_ ?_ | refine LeO.bind ?_ (fun _ => ?_)
    · intro y0 y1 y2 y3
      unfold impl_Piece_142.l1
      repeat' first | (with_reducible first | apply ih0 | apply ih1 | exact LeO.refl _ | exact LeO.none _ | refine LeO.ite ?_ ?_ | refine LeO.bind ?_ (fun _ => ?_)) | apply ih0 | apply ih1 | exact LeO.none _ | refine LeO.ite ?_ ?_ | refine LeO.bind ?_ (fun _ => ?_)
theorem impl_Piece_142.mono : ∀ a0 k, LeO (impl_Piece_142.f k a0) (impl_Piece_142.f (k + 1) a0) := by
 intro a0 k
 obtain ⟨ih0, ih1⟩ := impl_Piece_142.mono_l k
 unfold impl_Piece_142.f
 repeat' first | (with_reducible first | apply ih0 | apply ih1 | exact LeO.refl _ | exact LeO.none _ | refine LeO.ite ?_ ?_ | refine LeO.bind ?_ (fun _ => ?_)) | apply ih0 | apply ih1 | exact LeO.none _ | refine LeO.ite ?_ ?_ | refine LeO.bind ?_ (fun _ => ?_)
theorem impl_Piece_142.calls (k : Nat) (A0 : Option Addr) (c0 : Nat) (l0 : List (List (S91))) (r : List (S91)) (w : World) (hr0 : Kd.C (Kd.slice 91 k91) w A0 l0.length l0) (hc0 : l0.length ≤ c0) (h : impl_Piece_142.f k l0 = some r) :
    Calls Try.prog 142 #[.slice A0 l0.length c0] w fun e w' => ∃ v0_ : Value, e = .returned (v0_) ∧ Kd.R k91 91 w' w.heap.size (fun _ => True) v0_ r ∧ Below w.heap.size w w' := by
 have HR0 := Aside0.mk hr0
 have HC0 := Aside0.mk hc0
 clear hr0 hc0
 have HB := Aside0.mk (Below.refl w.heap.size w)
 have H : (impl_Piece_142.l0 k l0 0 l0 (l0.length : Int) 0) = some r := h
 clear h
 have H' := Aside0.mk H
 clear H
 go_enter Try.func142, Try.ntmps142
 go_wp2
 go_loopg [3, 11] k (fun kq v3 v11 w' => ∃ (x3_1 : Int) (x11_1 : Int), v3 = .int .i64 x3_1 ∧ v11 = .int .i64 x11_1 ∧ Aside0 (impl_Piece_142.l0 kq l0 x3_1 l0 (l0.length : Int) x11_1 = some r) ∧ Aside0 (kq ≤ k) ∧ Aside0 (Below w.heap.size w w'))
 case atStart => exact ⟨(0), (0), zi, zi, H', ⟨Nat.le_refl _⟩, zl HB⟩
 clear H'
 try clear c1
 obtain ⟨x3_1, x11_1, rfl, rfl, HA, HK1, HB⟩ := hrel
 cases gk with
 | zero => exact absurd HA.out (by simp [impl_Piece_142.l0])
 | succ k1 => ?_
 have H := HA.out
 clear HA
 simp only [impl_Piece_142.l0] at H
 by_cases c2 : x11_1 < (l0.length : Int)
 ·rw [if_pos c2] at H
  have c2b0 : decide (x11_1 < (l0.length : Int)) = true := decide_eq_true c2
  clear c2
  by_cases c3 : 0 ≤ x11_1
  rotate_left
  ·rw [if_neg c3] at H
   exact absurd H (by simp)
  rw [if_pos c3] at H
  have c3b0 : decide (0 ≤ x11_1) = true := decide_eq_true c3
  clear c3
  by_cases c4 : x11_1 < (l0.length : Int)
  rotate_left
  ·rw [if_neg c4] at H
   exact absurd H (by simp)
  rw [if_pos c4] at H
  have c4b0 : decide (x11_1 < (l0.length : Int)) = true := decide_eq_true c4
  clear c4
  by_cases c5 : (wrap64 (x3_1 + ((rd_L5 l0 x11_1).length : Int))) < 0
  ·rw [if_pos c5] at H
   exact absurd H (by simp)
  rw [if_neg c5] at H
  have c5b0 : decide ((wrap64 (x3_1 + ((rd_L5 l0 x11_1).length : Int))) < 0) = false := decide_eq_false c5
  clear c5
  have H' := Aside0.mk H
  clear H
  have p232 : 0 ≤ (x11_1 : Int) := of_decide_eq_true zA
  have q232 : x11_1 < (l0.length : Int) := of_decide_eq_true zA
  obtain ⟨ad232, A232_0, c232_0, e232, hx232_0, hl232_0, hi232_0⟩ := at_L5 HR0.out x11_1 p232 q232
  cases e232
  replace hx232_0 := zc HB hx232_0
  have HR232_0 := Aside0.mk hi232_0
  have HC232_0 := Aside0.mk hl232_0
  clear hi232_0 hl232_0
  replace p232 := eq_true p232
  replace q232 := eq_true q232
  go_wp2
  go_roundg k1
  case measure => have := HK1.out; omega
  case rel => exact ⟨(wrap64 (x3_1 + ((rd_L5 l0 x11_1).length : Int))), (wrap64 (x11_1 + 1)), zi, zi, H', ⟨by have := HK1.out; omega⟩, zl HB⟩
 rw [if_neg c2] at H
 have c2b0 : decide (x11_1 < (l0.length : Int)) = false := decide_eq_false c2
 clear c2
 replace H := zob H
 obtain ⟨t233, A60, H⟩ := H
 replace H : (impl_Piece_142.l1 k1 t233 l0 (l0.length : Int) 0) = some r := H
 have A6 := Aside0.mk A60
 clear A60
 have H' := Aside0.mk H
 clear H
 go_wp2_with (first | ((with_reducible refine gate_callee (f := 178) rfl ?_); refine goesL_ (some 24) rfl rfl Try.func178 (by kernel_rfl) rfl #[.slice none 0 0, .int .i64 x3_1] rfl zm ?_; (refine (impl_Piece_178.calls _ _ ([] : List (S91)) x3_1 t233 _ ?side1 ?side2 A6.out).mono ?_); (case side1 => exact Kd.C_nil _ _); (case side2 => exact Nat.le_refl _); rintro e w7 ⟨v234, rfl, ho0, hb⟩; refine ⟨_, rfl, ?_⟩; have n_ : _ ∧ _ := ⟨Aside0.mk (Kd.R_lower ho0 (zz HB)), zb HB hb⟩; clear HB; obtain ⟨HO235, HB⟩ := n_; (try clear hb); (try clear hb2); (try clear hk); (try clear hi); (try clear ho0)))
 go_loopg [6, 27] k1 (fun kq v6 v27 w' => ∃ (x6_2 : List (S91)) (x27_2 : Int), v27 = .int .i64 x27_2 ∧ Aside0 (impl_Piece_142.l1 kq x6_2 l0 (l0.length : Int) x27_2 = some r) ∧ Aside0 (kq ≤ k1) ∧ Aside0 (Kd.R k91 91 w' w.heap.size (fun _ => True) v6 x6_2) ∧ Aside0 (Below w.heap.size w w'))
 case atStart => exact ⟨(t233), (0), zi, H', ⟨Nat.le_refl _⟩, ze HO235, zl HB⟩
 clear H'
 try clear c1
 try clear c2
 try clear c2b0
 try clear p2
 try clear q2
 try clear hx2
 try clear c3
 try clear c3b0
 try clear c4
 try clear c4b0
 try clear c5
 try clear c5b0
 try clear p6
 try clear hx232_0
 try clear p232
 try clear q232
 obtain ⟨x6_2, x27_2, rfl, HA, HK2, HO_6, HB⟩ := hrel
 cases gk with
 | zero => exact absurd HA.out (by simp [impl_Piece_142.l1])
 | succ k2 => ?_
 have H := HA.out
 clear HA
 simp only [impl_Piece_142.l1] at H
 by_cases c8 : x27_2 < (l0.length : Int)
 rotate_left
 ·rw [if_neg c8] at H
  have c8b0 : decide (x27_2 < (l0.length : Int)) = false := decide_eq_false c8
  clear c8
  obtain rfl := Option.some.inj H
  go_wp2
  go_ret
  exact ⟨_, zv, by (with_reducible repeat (first | apply Kd.R_alloc | apply Kd.R_drewN | apply Kd.R_drew)); exact HO_6.out, zbo⟩
 rw [if_pos c8] at H
 have c8b0 : decide (x27_2 < (l0.length : Int)) = true := decide_eq_true c8
 clear c8
 by_cases c9 : 0 ≤ x27_2
 rotate_left
 ·rw [if_neg c9] at H
  exact absurd H (by simp)
 rw [if_pos c9] at H
 have c9b0 : decide (0 ≤ x27_2) = true := decide_eq_true c9
 clear c9
 by_cases c10 : x27_2 < (l0.length : Int)
 rotate_left
 ·rw [if_neg c10] at H
  exact absurd H (by simp)
 rw [if_pos c10] at H
 have c10b0 : decide (x27_2 < (l0.length : Int)) = true := decide_eq_true c10
 clear c10
 by_cases c11 : x6_2.length + (rd_L5 l0 x27_2).length < 28147497671065
 rotate_left
 ·rw [if_neg c11] at H
  exact absurd H (by simp)
 rw [if_pos c11] at H
 have LMc11 := Aside0.mk c11
 clear c11
 obtain ⟨y237, hy237⟩ : ∃ y_ : List (S91), y_ = (x6_2 ++ (rd_L5 l0 x27_2)) := ⟨_, rfl⟩
 replace H : (impl_Piece_142.l1 k2 y237 l0 (l0.length : Int) (wrap64 (x27_2 + 1))) = some r := by first | (rw [hy237]; with_reducible exact H) | (have H2_ := (Option.bind_some _ _).symm.trans H; rw [hy237]; with_reducible exact H2_) | (have H2_ := (Option.bind_some _ _).symm.trans H; with_reducible exact H2_) | with_reducible exact H | (rw [hy237]; exact H) | exact H
 have Ny237 := Aside0.mk hy237
 clear hy237
 have H' := Aside0.mk H
 clear H
 have p236 : 0 ≤ (x27_2 : Int) := of_decide_eq_true zA
 have q236 : x27_2 < (l0.length : Int) := of_decide_eq_true zA
 obtain ⟨ad236, A236_0, c236_0, e236, hx236_0, hl236_0, hi236_0⟩ := at_L5 HR0.out x27_2 p236 q236
 cases e236
 replace hx236_0 := zc HB hx236_0
 have HR236_0 := Aside0.mk hi236_0
 have HC236_0 := Aside0.mk hl236_0
 clear hi236_0 hl236_0
 replace p236 := eq_true p236
 replace q236 := eq_true q236
 go_wp2_with (first | ((with_reducible refine gate_builtin (b := .append) (xs := #[.tmp 31, .tmp 32]) rfl ?_); at_builtin; refine Kd.R_append_rows k91 (w0 := w) w.heap.size rfl (.tmp 31) (.tmp 32) 35 91 (.agg #[(.int .i8 0), (.int .i8 0), (.int .i8 0), (.int .i8 0), (.int .i8 0)]) 5 rfl Try.underlying35 info91 rfl (by decide) (by omega) u6 x6_2 (rd_L5 l0 x27_2) _ _ _ (fun _ => True) (fun _ => False) rfl rfl ?aO ?aR (fun _ _ h => h) (fun _ h => h.elim) ?aF ?aB ?aS ?aL ?_; (case aR => exact zcc HB HR236_0.out); (case aB => exact (zl HB).out); (case aF => exact (fun _ _ => trivial)); (case aO => exact (ze HO_6).out); (case aS => exact (zz HB)); (case aL => have := LMc11.out; omega); intro v238 w12 ho hb hg hat; rw [← Ny237.out] at ho; have n_ : _ ∧ _ := ⟨Aside0.mk (hb), Aside0.mk (ho)⟩; clear HB HO_6; obtain ⟨HB, HO239⟩ := n_; clear ho hb hg hat))
 go_roundg k2
 case measure => have := HK1.out; have := HK2.out; omega
 case rel => exact ⟨(y237), (wrap64 (x27_2 + 1)), zi, H', ⟨by have := HK1.out; have := HK2.out; omega⟩, ze HO239, zl HB⟩
def slices_IndexFunc__impl_JoinBoards_1.l0 : Nat → List (S91) → Int → Int → List (S37) → Option (Int)
  | 0, _, _, _, _ => none
  | k + 1, x0, x7, x8, x2000 => if x8 < x7 then (if 0 ≤ x8 then (if x8 < (x0.length : Int) then ((impl_JoinBoards_1.f ((rd_T91 x0 x8).f0.f0) ((rd_T91 x0 x8).f0.f1) ((rd_T91 x0 x8).f1) ((rd_T91 x0 x8).f2) ((rd_T91 x0 x8).f3) x2000).bind fun t241 => (if t241 = true then (some x8) else (slices_IndexFunc__impl_JoinBoards_1.l0 k x0 x7 (wrap64 (x8 + 1)) x2000))) else (none)) else (none)) else (some (-1))
def slices_IndexFunc__impl_JoinBoards_1.f (k : Nat) (l0 : List (S91)) (l1_0 : List (S37)) : Option (Int) := slices_IndexFunc__impl_JoinBoards_1.l0 k l0 (l0.length : Int) 0 l1_0
theorem slices_IndexFunc__impl_JoinBoards_1.mono_l : ∀ k, (∀ y0 y1 y2 y3, LeO (slices_IndexFunc__impl_JoinBoards_1.l0 k y0 y1 y2 y3) (slices_IndexFunc__impl_JoinBoards_1.l0 (k + 1) y0 y1 y2 y3))
  | 0 => fun _ _ _ _ r h => by simp [slices_IndexFunc__impl_JoinBoards_1.l0] at h
  | k + 1 => by
    have ih0 := slices_IndexFunc__impl_JoinBoards_1.mono_l k
    · intro y0 y1 y2 y3
      unfold slices_IndexFunc__impl_JoinBoards_1.l0
      repeat' first | (with_reducible first | apply ih0 | exact LeO.refl _ | exact LeO.none _ | refine LeO.ite ?_ ?_ | refine LeO.bind ?_ (fun _ => ?_)) | apply ih0 | exact LeO.none _ | refine LeO.ite ?_ ?_ | refine LeO.bind ?_ (fun _ => ?_)
theorem slices_IndexFunc__impl_JoinBoards_1.mono : ∀ a0 a1 k, LeO (slices_IndexFunc__impl_JoinBoards_1.f k a0 a1) (slices_IndexFunc__impl_JoinBoards_1.f (k + 1) a0 a1) := by
 intro a0 a1 k
 have ih0 := slices_IndexFunc__impl_JoinBoards_1.mono_l k
 unfold slices_IndexFunc__impl_JoinBoards_1.f
 repeat' first | (with_reducible first | apply ih0 | exact LeO.refl _ | exact LeO.none _ | refine LeO.ite ?_ ?_ | refine LeO.bind ?_ (fun _ => ?_)) | apply ih0 | exact LeO.none _ | refine LeO.ite ?_ ?_ | refine LeO.bind ?_ (fun _ => ?_)
theorem slices_IndexFunc__impl_JoinBoards_1.calls (k : Nat) (A0 : Option Addr) (c0 : Nat) (l0 : List (S91)) (adp1_0 : Addr) (l1_0 : List (S37)) (r : Int) (w : World) (hr0 : Kd.C k91 w A0 l0.length l0) (hc0 : l0.length ≤ c0) (hr1_0 : Kd.C k37 w (some adp1_0) l1_0.length l1_0) (h : slices_IndexFunc__impl_JoinBoards_1.f k l0 l1_0 = some r) :
    Calls Try.prog 170 #[.slice A0 l0.length c0, .func (.func 140) #[] #[.pointer (some adp1_0)]] w fun e w' => e = .returned (.int .i64 r) ∧ Below w.heap.size w w' := by
 have hu91 := Try.underlying91
 have HR0 := Aside0.mk hr0
 have HC0 := Aside0.mk hc0
 clear hr0 hc0
 have HR1_0 := Aside0.mk hr1_0
 clear hr1_0
 have HB := Aside0.mk (Below.refl w.heap.size w)
 have H : (slices_IndexFunc__impl_JoinBoards_1.l0 k l0 (l0.length : Int) 0 l1_0) = some r := h
 clear h
 have H' := Aside0.mk H
 clear H
 go_enter Try.func170, Try.ntmps170
 go_wp2
 go_loopg [8] k (fun kq v8 w' => ∃ (x8_1 : Int), v8 = .int .i64 x8_1 ∧ Aside0 (slices_IndexFunc__impl_JoinBoards_1.l0 kq l0 (l0.length : Int) x8_1 l1_0 = some r) ∧ Aside0 (kq ≤ k) ∧ Aside0 (Below w.heap.size w w'))
 case atStart => exact ⟨(0), zi, H', ⟨Nat.le_refl _⟩, zl HB⟩
 clear H'
 try clear c2
 try clear p2
 obtain ⟨x8_1, rfl, HA, HK1, HB⟩ := hrel
 cases gk with
 | zero => exact absurd HA.out (by simp [slices_IndexFunc__impl_JoinBoards_1.l0])
 | succ k1 => ?_
 have H := HA.out
 clear HA
 simp only [slices_IndexFunc__impl_JoinBoards_1.l0] at H
 by_cases c3 : x8_1 < (l0.length : Int)
 rotate_left
 ·rw [if_neg c3] at H
  have c3b0 : decide (x8_1 < (l0.length : Int)) = false := decide_eq_false c3
  clear c3
  obtain rfl := Option.some.inj H
  go_wp2
  go_ret
  exact ⟨zv, zbo⟩
 rw [if_pos c3] at H
 have c3b0 : decide (x8_1 < (l0.length : Int)) = true := decide_eq_true c3
 clear c3
 by_cases c4 : 0 ≤ x8_1
 rotate_left
 ·rw [if_neg c4] at H
  exact absurd H (by simp)
 rw [if_pos c4] at H
 have c4b0 : decide (0 ≤ x8_1) = true := decide_eq_true c4
 clear c4
 by_cases c5 : x8_1 < (l0.length : Int)
 rotate_left
 ·rw [if_neg c5] at H
  exact absurd H (by simp)
 rw [if_pos c5] at H
 have c5b0 : decide (x8_1 < (l0.length : Int)) = true := decide_eq_true c5
 clear c5
 replace H := zob H
 obtain ⟨t241, A60, H⟩ := H
 replace H : (if t241 = true then (some x8_1) else (slices_IndexFunc__impl_JoinBoards_1.l0 k1 l0 (l0.length : Int) (wrap64 (x8_1 + 1)) l1_0)) = some r := H
 have A6 := Aside0.mk A60
 clear A60
 by_cases c7 : t241 = true
 ·subst c7
  have H1 : (some x8_1) = some r := by rw [if_pos rfl] at H; exact H
  clear H
  have H := H1
  clear H1
  obtain rfl := Option.some.inj H
  have p240 : 0 ≤ (x8_1 : Int) := of_decide_eq_true zA
  have q240 : x8_1 < (l0.length : Int) := of_decide_eq_true zA
  obtain ⟨ad240, e240, hx240_0, hx240_1, hx240_2, hx240_3, hx240_4⟩ := at_T91 HR0.out x8_1 p240 q240
  cases e240
  replace hx240_0 := zc HB hx240_0
  replace hx240_1 := zc HB hx240_1
  replace hx240_2 := zc HB hx240_2
  replace hx240_3 := zc HB hx240_3
  replace hx240_4 := zc HB hx240_4
  replace p240 := eq_true p240
  replace q240 := eq_true q240
  go_wp2_with (first | (go_at_call 140; (with_reducible refine (impl_JoinBoards_1.calls ((rd_T91 l0 x8_1).f0.f0) ((rd_T91 l0 x8_1).f0.f1) ((rd_T91 l0 x8_1).f1) ((rd_T91 l0 x8_1).f2) ((rd_T91 l0 x8_1).f3) _ l1_0 true _ ?side1 A6.out).mono ?_); (case side1 => exact zcc HB HR1_0.out); rintro e w8 ⟨rfl, hb⟩; have n0_ := zb HB hb; clear HB; have HB := n0_; clear n0_; (try clear hb); (try clear hb2); (try clear hk); (try clear hi)))
  go_ret
  exact ⟨zv, zbo⟩
 replace c7 := Bool.eq_false_iff.mpr c7
 subst c7
 have H1 : (slices_IndexFunc__impl_JoinBoards_1.l0 k1 l0 (l0.length : Int) (wrap64 (x8_1 + 1)) l1_0) = some r := by rw [if_neg (show ¬ (false = true) by decide)] at H; exact H
 clear H
 have H := H1
 clear H1
 have H' := Aside0.mk H
 clear H
 have p240 : 0 ≤ (x8_1 : Int) := of_decide_eq_true zA
 have q240 : x8_1 < (l0.length : Int) := of_decide_eq_true zA
 obtain ⟨ad240, e240, hx240_0, hx240_1, hx240_2, hx240_3, hx240_4⟩ := at_T91 HR0.out x8_1 p240 q240
 cases e240
 replace hx240_0 := zc HB hx240_0
 replace hx240_1 := zc HB hx240_1
 replace hx240_2 := zc HB hx240_2
 replace hx240_3 := zc HB hx240_3
 replace hx240_4 := zc HB hx240_4
 replace p240 := eq_true p240
 replace q240 := eq_true q240
 go_wp2_with (first | (go_at_call 140; (with_reducible refine (impl_JoinBoards_1.calls ((rd_T91 l0 x8_1).f0.f0) ((rd_T91 l0 x8_1).f0.f1) ((rd_T91 l0 x8_1).f1) ((rd_T91 l0 x8_1).f2) ((rd_T91 l0 x8_1).f3) _ l1_0 false _ ?side1 A6.out).mono ?_); (case side1 => exact zcc HB HR1_0.out); rintro e w9 ⟨rfl, hb⟩; have n0_ := zb HB hb; clear HB; have HB := n0_; clear n0_; (try clear hb); (try clear hb2); (try clear hk); (try clear hi)))
 go_roundg k1
 case measure => have := HK1.out; omega
 case rel => exact ⟨(wrap64 (x8_1 + 1)), zi, H', ⟨by have := HK1.out; omega⟩, zl HB⟩
def slices_ContainsFunc__impl_JoinBoards_1.f (k : Nat) (l0 : List (S91)) (l1_0 : List (S37)) : Option (Bool) := (slices_IndexFunc__impl_JoinBoards_1.f k l0 l1_0).bind fun t242 => (some (decide (t242 ≥ 0)))
theorem slices_ContainsFunc__impl_JoinBoards_1.mono : ∀ a0 a1 k, LeO (slices_ContainsFunc__impl_JoinBoards_1.f k a0 a1) (slices_ContainsFunc__impl_JoinBoards_1.f (k + 1) a0 a1) := by
 intro a0 a1 k
 unfold slices_ContainsFunc__impl_JoinBoards_1.f
 repeat' first | (with_reducible first | apply slices_IndexFunc__impl_JoinBoards_1.mono | exact LeO.refl _ | exact LeO.none _ | refine LeO.ite ?_ ?_ | refine LeO.bind ?_ (fun _ => ?_)) | apply slices_IndexFunc__impl_JoinBoards_1.mono | exact LeO.none _ | refine LeO.ite ?_ ?_ | refine LeO.bind ?_ (fun _ => ?_)
theorem slices_ContainsFunc__impl_JoinBoards_1.calls (k : Nat) (A0 : Option Addr) (c0 : Nat) (l0 : List (S91)) (adp1_0 : Addr) (l1_0 : List (S37)) (r : Bool) (w : World) (hr0 : Kd.C k91 w A0 l0.length l0) (hc0 : l0.length ≤ c0) (hr1_0 : Kd.C k37 w (some adp1_0) l1_0.length l1_0) (h : slices_ContainsFunc__impl_JoinBoards_1.f k l0 l1_0 = some r) :
    Calls Try.prog 139 #[.slice A0 l0.length c0, .func (.func 140) #[] #[.pointer (some adp1_0)]] w fun e w' => e = .returned (.bool r) ∧ Below w.heap.size w w' := by
 have HR0 := Aside0.mk hr0
 have HC0 := Aside0.mk hc0
 clear hr0 hc0
 have HR1_0 := Aside0.mk hr1_0
 clear hr1_0
 have HB := Aside0.mk (Below.refl w.heap.size w)
 have H : ((slices_IndexFunc__impl_JoinBoards_1.f k l0 l1_0).bind fun t242 => (some (decide (t242 ≥ 0)))) = some r := h
 clear h
 replace H := zob H
 obtain ⟨t242, A30, H⟩ := H
 replace H : (some (decide (t242 ≥ 0))) = some r := H
 have A3 := Aside0.mk A30
 clear A30
 obtain rfl := Option.some.inj H
 go_enter Try.func139, Try.ntmps139
 go_wp2_with (first | ((with_reducible refine gate_callee (f := 170) rfl ?_); refine goesL_ (some 7) rfl rfl Try.func170 (by kernel_rfl) rfl #[.slice A0 l0.length c0, .func (.func 140) #[] #[.pointer (some adp1_0)]] rfl zm ?_; (with_reducible refine (slices_IndexFunc__impl_JoinBoards_1.calls k _ _ l0 _ l1_0 t242 _ ?side1 ?side2 ?side3 A3.out).mono ?_); (case side1 => repeat (first | exact HR0.out | (with_reducible refine Kd.C_alloc ?_ _) | (with_reducible refine Kd.C_drewN ?_ _) | (with_reducible refine Kd.C_drew ?_))); (case side2 => exact HC0.out); (case side3 => repeat (first | exact HR1_0.out | (with_reducible refine Kd.C_alloc ?_ _) | (with_reducible refine Kd.C_drewN ?_ _) | (with_reducible refine Kd.C_drew ?_))); rintro e w4 ⟨rfl, hb⟩; refine ⟨_, rfl, ?_⟩; have n0_ := zb HB hb; clear HB; have HB := n0_; clear n0_; (try clear hb); (try clear hb2); (try clear hk); (try clear hi)))
 go_ret
 exact ⟨zv, zbo⟩
def slices_IndexFunc__impl_JoinBoards_2.l0 : Nat → List (S91) → Int → Int → List (S37) → Option (Int)
  | 0, _, _, _, _ => none
  | k + 1, x0, x7, x8, x2000 => if x8 < x7 then (if 0 ≤ x8 then (if x8 < (x0.length : Int) then ((impl_JoinBoards_2.f k ((rd_T91 x0 x8).f0.f0) ((rd_T91 x0 x8).f0.f1) ((rd_T91 x0 x8).f1) ((rd_T91 x0 x8).f2) ((rd_T91 x0 x8).f3) x2000).bind fun t244 => (if t244 = true then (some x8) else (slices_IndexFunc__impl_JoinBoards_2.l0 k x0 x7 (wrap64 (x8 + 1)) x2000))) else (none)) else (none)) else (some (-1))
def slices_IndexFunc__impl_JoinBoards_2.f (k : Nat) (l0 : List (S91)) (l1_0 : List (S37)) : Option (Int) := slices_IndexFunc__impl_JoinBoards_2.l0 k l0 (l0.length : Int) 0 l1_0
theorem slices_IndexFunc__impl_JoinBoards_2.mono_l : ∀ k, (∀ y0 y1 y2 y3, LeO (slices_IndexFunc__impl_JoinBoards_2.l0 k y0 y1 y2 y3) (slices_IndexFunc__impl_JoinBoards_2.l0 (k + 1) y0 y1 y2 y3))
  | 0 => fun _ _ _ _ r h => by simp [slices_IndexFunc__impl_JoinBoards_2.l0] at h
  | k + 1 => by
    have ih0 := slices_IndexFunc__impl_JoinBoards_2.mono_l k
    · intro y0 y1 y2 y3
      unfold slices_IndexFunc__impl_JoinBoards_2.l0
      repeat' first | (with_reducible first | apply ih0 | apply impl_JoinBoards_2.mono | exact LeO.refl _ | exact LeO.none _ | refine LeO.ite ?_ ?_ | refine LeO.bind ?_ (fun _ => ?_)) | apply ih0 | apply impl_JoinBoards_2.mono | exact LeO.none _ | refine LeO.ite ?_ ?_ | refine LeO.bind ?_ (fun _ => ?_)
theorem slices_IndexFunc__impl_JoinBoards_2.mono : ∀ a0 a1 k, LeO (slices_IndexFunc__impl_JoinBoards_2.f k a0 a1) (slices_IndexFunc__impl_JoinBoards_2.f (k + 1) a0 a1) := by
 intro a0 a1 k
 have ih0 := slices_IndexFunc__impl_JoinBoards_2.mono_l k
 unfold slices_IndexFunc__impl_JoinBoards_2.f
 repeat' first | (with_reducible first | apply ih0 | apply impl_JoinBoards_2.mono | exact LeO.refl _ | exact LeO.none _ | refine LeO.ite ?_ ?_ | refine LeO.bind ?_ (fun _ => ?_)) | apply ih0 | apply impl_JoinBoards_2.mono | exact LeO.none _ | refine LeO.ite ?_ ?_ | refine LeO.bind ?_ (fun _ => ?_)
theorem slices_IndexFunc__impl_JoinBoards_2.calls (k : Nat) (A0 : Option Addr) (c0 : Nat) (l0 : List (S91)) (adp1_0 : Addr) (l1_0 : List (S37)) (r : Int) (w : World) (hr0 : Kd.C k91 w A0 l0.length l0) (hc0 : l0.length ≤ c0) (hr1_0 : Kd.C k37 w (some adp1_0) l1_0.length l1_0) (h : slices_IndexFunc__impl_JoinBoards_2.f k l0 l1_0 = some r) :
    Calls Try.prog 170 #[.slice A0 l0.length c0, .func (.func 141) #[] #[.pointer (some adp1_0)]] w fun e w' => e = .returned (.int .i64 r) ∧ Below w.heap.size w w' := by
 have hu91 := Try.underlying91
 have HR0 := Aside0.mk hr0
 have HC0 := Aside0.mk hc0
 clear hr0 hc0
 have HR1_0 := Aside0.mk hr1_0
 clear hr1_0
 have HB := Aside0.mk (Below.refl w.heap.size w)
 have H : (slices_IndexFunc__impl_JoinBoards_2.l0 k l0 (l0.length : Int) 0 l1_0) = some r := h
 clear h
 have H' := Aside0.mk H
 clear H
 go_enter Try.func170, Try.ntmps170
 go_wp2
 go_loopg [8] k (fun kq v8 w' => ∃ (x8_1 : Int), v8 = .int .i64 x8_1 ∧ Aside0 (slices_IndexFunc__impl_JoinBoards_2.l0 kq l0 (l0.length : Int) x8_1 l1_0 = some r) ∧ Aside0 (kq ≤ k) ∧ Aside0 (Below w.heap.size w w'))
 case atStart => exact ⟨(0), zi, H', ⟨Nat.le_refl _⟩, zl HB⟩
 clear H'
 try clear c2
 try clear p2
 obtain ⟨x8_1, rfl, HA, HK1, HB⟩ := hrel
 cases gk with
 | zero => exact absurd HA.out (by simp [slices_IndexFunc__impl_JoinBoards_2.l0])
 | succ k1 => ?_
 have H := HA.out
 clear HA
 simp only [slices_IndexFunc__impl_JoinBoards_2.l0] at H
 by_cases c3 : x8_1 < (l0.length : Int)
 rotate_left
 ·rw [if_neg c3] at H
  have c3b0 : decide (x8_1 < (l0.length : Int)) = false := decide_eq_false c3
  clear c3
  obtain rfl := Option.some.inj H
  go_wp2
  go_ret
  exact ⟨zv, zbo⟩
 rw [if_pos c3] at H
 have c3b0 : decide (x8_1 < (l0.length : Int)) = true := decide_eq_true c3
 clear c3
 by_cases c4 : 0 ≤ x8_1
 rotate_left
 ·rw [if_neg c4] at H
  exact absurd H (by simp)
 rw [if_pos c4] at H
 have c4b0 : decide (0 ≤ x8_1) = true := decide_eq_true c4
 clear c4
 by_cases c5 : x8_1 < (l0.length : Int)
 rotate_left
 ·rw [if_neg c5] at H
  exact absurd H (by simp)
 rw [if_pos c5] at H
 have c5b0 : decide (x8_1 < (l0.length : Int)) = true := decide_eq_true c5
 clear c5
 replace H := zob H
 obtain ⟨t244, A60, H⟩ := H
 replace H : (if t244 = true then (some x8_1) else (slices_IndexFunc__impl_JoinBoards_2.l0 k1 l0 (l0.length : Int) (wrap64 (x8_1 + 1)) l1_0)) = some r := H
 have A6 := Aside0.mk A60
 clear A60
 by_cases c7 : t244 = true
 ·subst c7
  have H1 : (some x8_1) = some r := by rw [if_pos rfl] at H; exact H
  clear H
  have H := H1
  clear H1
  obtain rfl := Option.some.inj H
  have p243 : 0 ≤ (x8_1 : Int) := of_decide_eq_true zA
  have q243 : x8_1 < (l0.length : Int) := of_decide_eq_true zA
  obtain ⟨ad243, e243, hx243_0, hx243_1, hx243_2, hx243_3, hx243_4⟩ := at_T91 HR0.out x8_1 p243 q243
  cases e243
  replace hx243_0 := zc HB hx243_0
  replace hx243_1 := zc HB hx243_1
  replace hx243_2 := zc HB hx243_2
  replace hx243_3 := zc HB hx243_3
  replace hx243_4 := zc HB hx243_4
  replace p243 := eq_true p243
  replace q243 := eq_true q243
  go_wp2_with (first | (go_at_call 141; (with_reducible refine (impl_JoinBoards_2.calls k1 ((rd_T91 l0 x8_1).f0.f0) ((rd_T91 l0 x8_1).f0.f1) ((rd_T91 l0 x8_1).f1) ((rd_T91 l0 x8_1).f2) ((rd_T91 l0 x8_1).f3) _ l1_0 true _ ?side1 A6.out).mono ?_); (case side1 => exact zcc HB HR1_0.out); rintro e w8 ⟨rfl, hb⟩; have n0_ := zb HB hb; clear HB; have HB := n0_; clear n0_; (try clear hb); (try clear hb2); (try clear hk); (try clear hi)))
  go_ret
  exact ⟨zv, zbo⟩
 replace c7 := Bool.eq_false_iff.mpr c7
 subst c7
 have H1 : (slices_IndexFunc__impl_JoinBoards_2.l0 k1 l0 (l0.length : Int) (wrap64 (x8_1 + 1)) l1_0) = some r := by rw [if_neg (show ¬ (false = true) by decide)] at H; exact H
 clear H
 have H := H1
 clear H1
 have H' := Aside0.mk H
 clear H
 have p243 : 0 ≤ (x8_1 : Int) := of_decide_eq_true zA
 have q243 : x8_1 < (l0.length : Int) := of_decide_eq_true zA
 obtain ⟨ad243, e243, hx243_0, hx243_1, hx243_2, hx243_3, hx243_4⟩ := at_T91 HR0.out x8_1 p243 q243
 cases e243
 replace hx243_0 := zc HB hx243_0
 replace hx243_1 := zc HB hx243_1
 replace hx243_2 := zc HB hx243_2
 replace hx243_3 := zc HB hx243_3
 replace hx243_4 := zc HB hx243_4
 replace p243 := eq_true p243
 replace q243 := eq_true q243
 go_wp2_with (first | (go_at_call 141; (with_reducible refine (impl_JoinBoards_2.calls k1 ((rd_T91 l0 x8_1).f0.f0) ((rd_T91 l0 x8_1).f0.f1) ((rd_T91 l0 x8_1).f1) ((rd_T91 l0 x8_1).f2) ((rd_T91 l0 x8_1).f3) _ l1_0 false _ ?side1 A6.out).mono ?_); (case side1 => exact zcc HB HR1_0.out); rintro e w9 ⟨rfl, hb⟩; have n0_ := zb HB hb; clear HB; have HB := n0_; clear n0_; (try clear hb); (try clear hb2); (try clear hk); (try clear hi)))
 go_roundg k1
 case measure => have := HK1.out; omega
 case rel => exact ⟨(wrap64 (x8_1 + 1)), zi, H', ⟨by have := HK1.out; omega⟩, zl HB⟩
def slices_ContainsFunc__impl_JoinBoards_2.f (k : Nat) (l0 : List (S91)) (l1_0 : List (S37)) : Option (Bool) := (slices_IndexFunc__impl_JoinBoards_2.f k l0 l1_0).bind fun t245 => (some (decide (t245 ≥ 0)))
theorem slices_ContainsFunc__impl_JoinBoards_2.mono : ∀ a0 a1 k, LeO (slices_ContainsFunc__impl_JoinBoards_2.f k a0 a1) (slices_ContainsFunc__impl_JoinBoards_2.f (k + 1) a0 a1) := by
 intro a0 a1 k
 unfold slices_ContainsFunc__impl_JoinBoards_2.f
 repeat' first | (with_reducible first | apply slices_IndexFunc__impl_JoinBoards_2.mono | exact LeO.refl _ | exact LeO.none _ | refine LeO.ite ?_ ?_ | refine LeO.bind ?_ (fun _ => ?_)) | apply slices_IndexFunc__impl_JoinBoards_2.mono | exact LeO.none _ | refine LeO.ite ?_ ?_ | refine LeO.bind ?_ (fun _ => ?_)
theorem slices_ContainsFunc__impl_JoinBoards_2.calls (k : Nat) (A0 : Option Addr) (c0 : Nat) (l0 : List (S91)) (adp1_0 : Addr) (l1_0 : List (S37)) (r : Bool) (w : World) (hr0 : Kd.C k91 w A0 l0.length l0) (hc0 : l0.length ≤ c0) (hr1_0 : Kd.C k37 w (some adp1_0) l1_0.length l1_0) (h : slices_ContainsFunc__impl_JoinBoards_2.f k l0 l1_0 = some r) :
    Calls Try.prog 139 #[.slice A0 l0.length c0, .func (.func 141) #[] #[.pointer (some adp1_0)]] w fun e w' => e = .returned (.bool r) ∧ Below w.heap.size w w' := by
 have HR0 := Aside0.mk hr0
 have HC0 := Aside0.mk hc0
 clear hr0 hc0
 have HR1_0 := Aside0.mk hr1_0
 clear hr1_0
 have HB := Aside0.mk (Below.refl w.heap.size w)
 have H : ((slices_IndexFunc__impl_JoinBoards_2.f k l0 l1_0).bind fun t245 => (some (decide (t245 ≥ 0)))) = some r := h
 clear h
 replace H := zob H
 obtain ⟨t245, A30, H⟩ := H
 replace H : (some (decide (t245 ≥ 0))) = some r := H
 have A3 := Aside0.mk A30
 clear A30
 obtain rfl := Option.some.inj H
 go_enter Try.func139, Try.ntmps139
 go_wp2_with (first | ((with_reducible refine gate_callee (f := 170) rfl ?_); refine goesL_ (some 7) rfl rfl Try.func170 (by kernel_rfl) rfl #[.slice A0 l0.length c0, .func (.func 141) #[] #[.pointer (some adp1_0)]] rfl zm ?_; (with_reducible refine (slices_IndexFunc__impl_JoinBoards_2.calls k _ _ l0 _ l1_0 t245 _ ?side1 ?side2 ?side3 A3.out).mono ?_); (case side1 => repeat (first | exact HR0.out | (with_reducible refine Kd.C_alloc ?_ _) | (with_reducible refine Kd.C_drewN ?_ _) | (with_reducible refine Kd.C_drew ?_))); (case side2 => exact HC0.out); (case side3 => repeat (first | exact HR1_0.out | (with_reducible refine Kd.C_alloc ?_ _) | (with_reducible refine Kd.C_drewN ?_ _) | (with_reducible refine Kd.C_drew ?_))); rintro e w4 ⟨rfl, hb⟩; refine ⟨_, rfl, ?_⟩; have n0_ := zb HB hb; clear HB; have HB := n0_; clear n0_; (try clear hb); (try clear hb2); (try clear hk); (try clear hi)))
 go_ret
 exact ⟨zv, zbo⟩
end Go.Proofs.Ytffnfpnajkgnaaa.PFnExactJoinBoards
