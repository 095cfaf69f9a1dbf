-- WRITTEN by xprint.py, a program of this session's. Not trusted: Lean checks it.
import Derived.Test.YtmpmanfoiocfgaaPFnExactNeedsOfx0
import Derived.Test.YtmpmanfoiocfgaaPFnExactNeedsOfx9
namespace Go.Proofs.Ytmpmanfoiocfgaa.PFnExactNeedsOf
open Go.RowKit Go.Proofs.YtmpmanfoiocfgaaW.PrintWords Go.Proofs.YtmpmanfoiocfgaaW.PrintLast Go.Proofs.YtmpmanfoiocfgaaW.PrintMore Go.Proofs.YtmpmanfoiocfgaaX
attribute [local go_sem] max2_int min2_int max_two min_two max_three min_three max_four min_four   -- for this text's walks alone
set_option linter.unusedVariables false
set_option linter.unusedSimpArgs false

/-! ### impl_Network_outputTables: function 93 -/
def impl_Network_outputTables.l0 : Nat → List Int → List Int → List Int → Int → Int → Option (List Int)
  | 0, _, _, _, _, _ => none
  | k + 1, x3, x4, x13, x14, x15 => if x15 < x14 then (if 0 ≤ x15 then (if x15 < (x13.length : Int) then (if 0 ≤ (rd x13 x15) then (if (rd x13 x15) < (x3.length : Int) then (if x4.length < 17592186044416 then (impl_Network_outputTables.l0 k x3 (x4 ++ [rd x3 (rd x13 x15)]) x13 x14 (wrap64 (x15 + 1))) else (none)) else (none)) else (none)) else (none)) else (none)) else (some x4)
def impl_Network_outputTables.f (k : Nat) (l0 : List (S31)) : Option (List Int) := (impl_Network_tables.f k l0).bind fun t270 => (if 0 < (l0.length : Int) then (impl_Network_outputTables.l0 k t270 (([] : List Int)) ((rd_T31 l0 0).f2) (((rd_T31 l0 0).f2).length : Int) 0) else (none))
theorem impl_Network_outputTables.mono_l : ∀ k, (∀ y0 y1 y2 y3 y4, LeO (impl_Network_outputTables.l0 k y0 y1 y2 y3 y4) (impl_Network_outputTables.l0 (k + 1) y0 y1 y2 y3 y4))
  | 0 => fun _ _ _ _ _ r h => by simp [impl_Network_outputTables.l0] at h
  | k + 1 => by
    have ih0 := impl_Network_outputTables.mono_l k
    · intro y0 y1 y2 y3 y4
      unfold impl_Network_outputTables.l0
      repeat' first
      | (with_reducible exact ih0 _ _ _ _ _)
      | (with_reducible exact impl_Network_tables.mono _ _)
      | (with_reducible exact LeO.refl _)
      | (with_reducible exact LeO.none _)
      | (with_reducible refine LeO.ite ?_ ?_)
      | (with_reducible refine LeO.bind ?_ (fun _ => ?_))
      | exact ih0 _ _ _ _ _
      | exact impl_Network_tables.mono _ _
      | exact LeO.none _
      | refine LeO.ite ?_ ?_
      | refine LeO.bind ?_ (fun _ => ?_)
theorem impl_Network_outputTables.mono : ∀ a0 k, LeO (impl_Network_outputTables.f k a0) (impl_Network_outputTables.f (k + 1) a0) := by
  intro a0 k
  have ih0 := impl_Network_outputTables.mono_l k
  unfold impl_Network_outputTables.f
  repeat' first
      | (with_reducible exact ih0 _ _ _ _ _)
      | (with_reducible exact impl_Network_tables.mono _ _)
      | (with_reducible exact LeO.refl _)
      | (with_reducible exact LeO.none _)
      | (with_reducible refine LeO.ite ?_ ?_)
      | (with_reducible refine LeO.bind ?_ (fun _ => ?_))
      | exact ih0 _ _ _ _ _
      | exact impl_Network_tables.mono _ _
      | exact LeO.none _
      | refine LeO.ite ?_ ?_
      | refine LeO.bind ?_ (fun _ => ?_)
set_option maxHeartbeats 8000000 in
set_option maxRecDepth 100000 in
theorem impl_Network_outputTables.calls (k : Nat) (adp0 : Addr) (l0 : List (S31)) (r : List Int) (w : World) (hr0 : Kd.C k31 w (some adp0) l0.length l0) (h : impl_Network_outputTables.f k l0 = some r) :
    Calls Try.prog 93 #[.pointer (some adp0)] w fun e w' => ∃ v0_ : Value, e = .returned (v0_) ∧ Kd.R (Kd.int .u64) 98 w' w.heap.size (fun _ => True) v0_ r ∧ Below w.heap.size w w' := by
  have HR0 := Aside0.mk hr0
  clear hr0
  have HB := Aside0.mk (Below.refl w.heap.size w)
  have H : ((impl_Network_tables.f k l0).bind fun t270 => (if 0 < (l0.length : Int) then (impl_Network_outputTables.l0 k t270 (([] : List Int)) ((rd_T31 l0 0).f2) (((rd_T31 l0 0).f2).length : Int) 0) else (none))) = some r := h
  clear h
  replace H := Option.bind_eq_some_iff.mp H
  obtain ⟨t270, A20, H⟩ := H
  replace H : (if 0 < (l0.length : Int) then (impl_Network_outputTables.l0 k t270 (([] : List Int)) ((rd_T31 l0 0).f2) (((rd_T31 l0 0).f2).length : Int) 0) else (none)) = some r := H
  have A2 := Aside0.mk A20
  clear A20
  obtain ⟨y273, hy273⟩ : ∃ y_ : List Int, y_ = (([] : List Int)) := ⟨_, rfl⟩
  replace H : (if 0 < (l0.length : Int) then (impl_Network_outputTables.l0 k t270 y273 ((rd_T31 l0 0).f2) (((rd_T31 l0 0).f2).length : Int) 0) else (none)) = some r := by first | (rw [hy273]; with_reducible exact H) | (have H2_ := (Option.bind_some _ _).symm.trans H; rw [hy273]; with_reducible exact H2_) | (have H2_ := (Option.bind_some _ _).symm.trans H; with_reducible exact H2_) | with_reducible exact H | (rw [hy273]; exact H) | exact H
  have Ny273 := Aside0.mk hy273
  clear hy273
  by_cases c3 : 0 < (l0.length : Int)
  · rw [if_pos c3] at H
    have c3b0 : decide (0 < (l0.length : Int)) = true := decide_eq_true c3
    have c3b1 : decide (0 < l0.length) = true := decide_eq_true (by omega)
    clear c3
    have H' := Aside0.mk H
    clear H
    go_enter Try.func93, Try.ntmps93
    go_wp2_with (first | ((with_reducible refine gate_callee (f := 97) rfl ?_); refine goesL_ (some 8) rfl rfl Try.func97 (by kernel_rfl) rfl #[.pointer (some adp0)] rfl (by (try simp only [List.map_toArray, List.map_cons, List.map_nil]); first | done | rfl | (simp only [List.length_drop, List.length_take]; rfl)) ?_; (with_reducible refine (impl_Network_tables.calls k _ l0 t270 _ ?side1 A2.out).mono ?_); (case side1 => repeat (first | exact HR0.out | (with_reducible refine Kd.C_alloc ?_ _) | (with_reducible refine Kd.C_drewN ?_ _) | (with_reducible refine Kd.C_drew ?_))); rintro e w4 ⟨v271, rfl, ho0, hb⟩; refine ⟨_, rfl, ?_⟩; have n0_ := Aside0.mk (Kd.R_lower ho0 (below_size (by repeat (first | (with_reducible first | exact HB.out | apply below_alloc | apply pw_below_drewN | apply below_drew1) | exact HB.out)))); have n1_ := Aside0.mk (below_step (by repeat (first | (with_reducible first | exact HB.out | apply below_alloc | apply pw_below_drewN | apply below_drew1) | exact HB.out)) hb); clear HB; have HO272 := n0_; have HB := n1_; clear n0_ n1_; (try clear hb); (try clear hb2); (try clear hk); (try clear hi); (try clear ho0)) | ((with_reducible refine gate_dst (N := 9) rfl ?_); refine Kd.R_lit (Kd.int .u64) _ 98 ?hg (N := 9) ?hd (xs := ([] : List Int)) (inner := []) (ok := fun _ => True) (okp := fun _ => True) ?hr ?hp (fun _ hk => hk) trivial (Below.refl _ _) (Nat.le_refl _) (by simp) ?_; (case hd => rfl); (case hg => rfl); (case hr => first | (go_simp; done) | (go_simp; rfl)); (case hp => exact (Reps.none _ _)); intro v274 w5 ho6 hb hg_ hnew_; clear hg_ hnew_; (first | rw [← Ny273.out] at ho6 | (simp only [Int.reduceToNat] at ho6; rw [← Ny273.out] at ho6)); have n0_ := Aside0.mk (Kd.R_elder' (by (with_reducible repeat (first | apply Kd.R_alloc | apply Kd.R_drewN | apply Kd.R_drew)); exact HO272.out) (Kd.R_base ho6) hb); have n1_ := Aside0.mk (Kd.R_lower (Kd.R_new' ho6 (Kd.R_lt (by (with_reducible repeat (first | apply Kd.R_alloc | apply Kd.R_drewN | apply Kd.R_drew)); exact HO272.out))) (below_size (by repeat (first | (with_reducible first | exact HB.out | apply below_alloc | apply pw_below_drewN | apply below_drew1) | exact HB.out)))); have n2_ := Aside0.mk (below_step (by repeat (first | (with_reducible first | exact HB.out | apply below_alloc | apply pw_below_drewN | apply below_drew1) | exact HB.out)) hb); clear HO272; clear HB; have HO272 := n0_; have HO275 := n1_; have HB := n2_; clear n0_ n1_ n2_; clear hb ho6; have p276 : 0 ≤ (0 : Int) := (by omega); have q276 : 0 < (l0.length : Int) := of_decide_eq_true (by first | (with_reducible assumption) | assumption); obtain ⟨ad276, A276_1, c276_1, A276_2, c276_2, e276, hx276_0, hx276_1, hx276_2, hl276_1, hi276_1, hl276_2, hi276_2⟩ := at_T31 HR0.out 0 p276 q276; obtain rfl : adp0 = ad276 := (by injection e276); have qi276 : (0 < l0.length) = True := eq_true (by omega); (try rw [show ((0 : Int)).toNat = 0 from rfl] at hx276_0); (try rw [show 0 * 3 = 0 from rfl] at hx276_0); (try rw [Addr.add_zero'] at hx276_0); (try rw [show ((0 : Int)).toNat = 0 from rfl] at hx276_1); (try rw [show 0 * 3 = 0 from rfl] at hx276_1); (try rw [Addr.add_zero'] at hx276_1); (try rw [show ((0 : Int)).toNat = 0 from rfl] at hx276_2); (try rw [show 0 * 3 = 0 from rfl] at hx276_2); (try rw [Addr.add_zero'] at hx276_2); replace hx276_0 := (HB.out.cell (World.block_lt_of_cell? w _ hx276_0)).trans hx276_0; replace hx276_1 := (HB.out.cell (World.block_lt_of_cell? w _ hx276_1)).trans hx276_1; replace hx276_2 := (HB.out.cell (World.block_lt_of_cell? w _ hx276_2)).trans hx276_2; have HR276_1 := Aside0.mk hi276_1; have HC276_1 := Aside0.mk hl276_1; clear hi276_1 hl276_1; have HR276_2 := Aside0.mk hi276_2; have HC276_2 := Aside0.mk hl276_2; clear hi276_2 hl276_2; replace p276 := eq_true p276; replace q276 := eq_true q276))
    go_loopg [4, 15] k (fun kq v4 v15 w' => ∃ (x4_1 : List Int) (x15_1 : Int), v15 = .int .i64 x15_1 ∧ Aside0 (impl_Network_outputTables.l0 kq t270 x4_1 ((rd_T31 l0 0).f2) (((rd_T31 l0 0).f2).length : Int) x15_1 = some r) ∧ Aside0 (kq ≤ k) ∧ Aside0 (Kd.R (Kd.int .u64) 98 w' w.heap.size (fun k_ => some k_ ≠ (v4 : Value).ownBlock) v271 t270) ∧ Aside0 (Kd.R (Kd.int .u64) 98 w' w.heap.size (fun k_ => some k_ ≠ (v271 : Value).ownBlock) v4 x4_1) ∧ Aside0 (Below w.heap.size w w'))
    case atStart => exact ⟨(y273), (0), (by first | rfl | (simp; done) | (simp [*]; done) | (exact congrArg (Value.int .i64) (wrap_eq (by omega)))), H', ⟨Nat.le_refl _⟩, ⟨by (with_reducible repeat (first | apply Kd.R_alloc | apply Kd.R_drewN | apply Kd.R_drew)); exact Kd.R_mono HO272.out (fun _ hk => hk.2)⟩, ⟨by (with_reducible repeat (first | apply Kd.R_alloc | apply Kd.R_drewN | apply Kd.R_drew)); exact Kd.R_mono HO275.out (fun _ hk => hk.2)⟩, ⟨by repeat (first | (with_reducible first | exact HB.out | apply below_alloc | apply pw_below_drewN | apply below_drew1) | exact HB.out)⟩⟩
    case round =>
      clear H'
      try clear c2
      try clear p2
      try clear q2
      try clear hx2
      try clear qi2
      try clear c3
      try clear c3b0
      try clear c3b1
      try clear hx276_0
      try clear hx276_1
      try clear hx276_2
      try clear p276
      try clear q276
      obtain ⟨x4_1, x15_1, rfl, HA, HK1, HO_3, HO_4, HB⟩ := hrel
      cases gk with
      | zero => exact absurd HA.out (by simp [impl_Network_outputTables.l0])
      | succ k1 =>
        have H := HA.out
        clear HA
        simp only [impl_Network_outputTables.l0] at H
        by_cases c7 : x15_1 < (((rd_T31 l0 0).f2).length : Int)
        · rw [if_pos c7] at H
          have c7b0 : decide (x15_1 < (((rd_T31 l0 0).f2).length : Int)) = true := decide_eq_true c7
          clear c7
          by_cases c8 : 0 ≤ x15_1
          · rw [if_pos c8] at H
            have c8b0 : decide (0 ≤ x15_1) = true := decide_eq_true c8
            clear c8
            by_cases c9 : x15_1 < (((rd_T31 l0 0).f2).length : Int)
            · rw [if_pos c9] at H
              have c9b0 : decide (x15_1 < (((rd_T31 l0 0).f2).length : Int)) = true := decide_eq_true c9
              clear c9
              by_cases c10 : 0 ≤ (rd ((rd_T31 l0 0).f2) x15_1)
              · rw [if_pos c10] at H
                have c10b0 : decide (0 ≤ (rd ((rd_T31 l0 0).f2) x15_1)) = true := decide_eq_true c10
                clear c10
                by_cases c11 : (rd ((rd_T31 l0 0).f2) x15_1) < (t270.length : Int)
                · rw [if_pos c11] at H
                  have c11b0 : decide ((rd ((rd_T31 l0 0).f2) x15_1) < (t270.length : Int)) = true := decide_eq_true c11
                  clear c11
                  by_cases c12 : x4_1.length < 17592186044416
                  · rw [if_pos c12] at H
                    have LMc12 := Aside0.mk c12
                    clear c12
                    obtain ⟨y279, hy279⟩ : ∃ y_ : List Int, y_ = (x4_1 ++ [rd t270 (rd ((rd_T31 l0 0).f2) x15_1)]) := ⟨_, rfl⟩
                    replace H : (impl_Network_outputTables.l0 k1 t270 y279 ((rd_T31 l0 0).f2) (((rd_T31 l0 0).f2).length : Int) (wrap64 (x15_1 + 1))) = some r := by first | (rw [hy279]; with_reducible exact H) | (have H2_ := (Option.bind_some _ _).symm.trans H; rw [hy279]; with_reducible exact H2_) | (have H2_ := (Option.bind_some _ _).symm.trans H; with_reducible exact H2_) | with_reducible exact H | (rw [hy279]; exact H) | exact H
                    have Ny279 := Aside0.mk hy279
                    clear hy279
                    have H' := Aside0.mk H
                    clear H
                    have p277 : 0 ≤ (x15_1 : Int) := of_decide_eq_true (by first | (with_reducible assumption) | assumption)
                    have q277 : x15_1 < (((rd_T31 l0 0).f2).length : Int) := of_decide_eq_true (by first | (with_reducible assumption) | assumption)
                    obtain ⟨ad277, e277, hx277_0⟩ := Kd.at_int HR276_2.out x15_1 p277 q277
                    cases e277
                    replace hx277_0 := (HB.out.cell (World.block_lt_of_cell? w _ hx277_0)).trans hx277_0
                    replace p277 := eq_true p277
                    replace q277 := eq_true q277
                    obtain ⟨Ao13, co13, eo13⟩ := Kd.R_slice HO_3.out
                    subst eo13
                    have p278 : 0 ≤ ((rd ((rd_T31 l0 0).f2) x15_1) : Int) := of_decide_eq_true (by first | (with_reducible assumption) | assumption)
                    have q278 : (rd ((rd_T31 l0 0).f2) x15_1) < (t270.length : Int) := of_decide_eq_true (by first | (with_reducible assumption) | assumption)
                    obtain ⟨ad278, e278, hx278_0⟩ := Kd.at_int (Kd.R_reads' HO_3.out).2.2 (rd ((rd_T31 l0 0).f2) x15_1) p278 q278
                    cases e278
                    replace p278 := eq_true p278
                    replace q278 := eq_true q278
                    go_wp2_with (first | ((with_reducible refine gate_builtin (b := .append) (xs := #[.tmp 19, .tmp 24]) rfl ?_); at_builtin; refine Kd.R_append (Kd.int .u64) (w0 := w) w.heap.size rfl (.tmp 19) (.tmp 24) 53 98 (.int .u64 0) 8 rfl Try.underlying53 info98 rfl (by decide) (by omega) u4 x4_1 (rd t270 (rd ((rd_T31 l0 0).f2) x15_1)) [.int .u64 (rd t270 (rd ((rd_T31 l0 0).f2) x15_1))] (fun k_ => some k_ ≠ (.slice (some ad278) t270.length co13 : Value).ownBlock) (fun _ => False) rfl rfl ?aP (fun _ hk => hk.elim) ?aF ?aO ?aB ?aS ?aL ?_; (case aP => exact rfl); (case aB => exact (by repeat (first | (with_reducible first | exact HB.out | apply below_alloc | apply pw_below_drewN | apply below_drew1) | exact HB.out))); (case aF => exact (fun k_ hk => Kd.fresh' (Kd.R_lt (by (with_reducible repeat (first | apply Kd.R_alloc | apply Kd.R_drewN | apply Kd.R_drew)); exact HO_3.out)) k_ hk)); (case aO => exact (by (with_reducible repeat (first | apply Kd.R_alloc | apply Kd.R_drewN | apply Kd.R_drew)); exact HO_4.out)); (case aS => exact (below_size (by repeat (first | (with_reducible first | exact HB.out | apply below_alloc | apply pw_below_drewN | apply below_drew1) | exact HB.out)))); (case aL => have := LMc12.out; omega); intro v280 w14 ho hb hg hat; rw [← Ny279.out] at ho; have n0_ := Aside0.mk (Kd.R_after (ok := (fun _ => True)) (by (with_reducible repeat (first | apply Kd.R_alloc | apply Kd.R_drewN | apply Kd.R_drew)); exact Kd.R_mono HO_3.out (fun _ hk => ⟨trivial, hk⟩)) hg hat); have n1_ := Aside0.mk (hb); have n2_ := Aside0.mk (ho); clear HO_3; clear HB; clear HO_4; have HO_3 := n0_; have HB := n1_; have HO281 := n2_; clear n0_ n1_ n2_; clear ho hb hg hat))
                    go_roundg k1
                    case measure => have := HK1.out; omega
                    case rel => exact ⟨(y279), (wrap64 (x15_1 + 1)), (by first | rfl | (simp; done) | (simp [*]; done) | (exact congrArg (Value.int .i64) (wrap_eq (by omega)))), H', ⟨by have := HK1.out; omega⟩, ⟨by (with_reducible repeat (first | apply Kd.R_alloc | apply Kd.R_drewN | apply Kd.R_drew)); exact Kd.R_mono HO_3.out (fun _ hk => hk.2)⟩, ⟨by (with_reducible repeat (first | apply Kd.R_alloc | apply Kd.R_drewN | apply Kd.R_drew)); exact HO281.out⟩, ⟨by repeat (first | (with_reducible first | exact HB.out | apply below_alloc | apply pw_below_drewN | apply below_drew1) | exact HB.out)⟩⟩
                  · rw [if_neg c12] at H
                    exact absurd H (by simp)
                · rw [if_neg c11] at H
                  exact absurd H (by simp)
              · rw [if_neg c10] at H
                exact absurd H (by simp)
            · rw [if_neg c9] at H
              exact absurd H (by simp)
          · rw [if_neg c8] at H
            exact absurd H (by simp)
        · rw [if_neg c7] at H
          have c7b0 : decide (x15_1 < (((rd_T31 l0 0).f2).length : Int)) = false := decide_eq_false c7
          clear c7
          obtain rfl := Option.some.inj H
          go_wp2
          go_ret
          exact ⟨_, by first | rfl | (simp [errW_none, errW_some] <;> rfl) | (simp [*, errW_none, errW_some] <;> rfl), by (with_reducible repeat (first | apply Kd.R_alloc | apply Kd.R_drewN | apply Kd.R_drew)); exact Kd.R_mono HO_4.out (fun _ hk => trivial), by repeat (first | (with_reducible first | exact HB.out | apply below_alloc | apply pw_below_drewN | apply below_drew1) | exact HB.out)⟩
  · rw [if_neg c3] at H
    exact absurd H (by simp)

-- NOT PRINTED: function 143 (slices_IndexFunc_uint64_uint64)

-- NOT PRINTED: function 135 (slices_ContainsFunc_uint64_uint64)

/-! ### impl_bit_uint64: function 94 -/
def impl_bit_uint64.f (a0 : Int) (a1 : Int) : Option (Bool) := if 0 ≤ a1 then (some ((Go.bits .and .u64 (shr .u64 a0 a1) 1) == 1)) else (none)
set_option maxHeartbeats 8000000 in
set_option maxRecDepth 100000 in
theorem impl_bit_uint64.calls (a0 : Int) (a1 : Int) (r : Bool) (w : World) (h : impl_bit_uint64.f a0 a1 = some r) :
    Calls Try.prog 94 #[.int .u64 a0, .int .i64 a1] w fun e w' => e = .returned (.bool r) ∧ Drawn0 w w' := by
  have H : (if 0 ≤ a1 then (some ((Go.bits .and .u64 (shr .u64 a0 a1) 1) == 1)) else (none)) = some r := h
  clear h
  by_cases c3 : 0 ≤ a1
  · rw [if_pos c3] at H
    have c3b0 := eq_true c3
    have c3b1 : decide (0 ≤ a1) = true := decide_eq_true c3
    clear c3
    obtain ⟨ji4, hji4⟩ : ∃ j_ : Int, (shr .u64 a0 a1) = j_ := ⟨_, rfl⟩
    replace H : (some ((Go.bits .and .u64 (ji4) 1) == 1)) = some r := by first | (rw [hji4] at H; exact H) | (simp only [hji4] at H ⊢; exact H)
    have hji4_ : (a0 / 2 ^ min a1.toNat 64) = ji4 := hji4
    have hji4z : a1 ≤ 64 → (a0 / 2 ^ a1.toNat) = ji4 := shr_small hji4
    obtain rfl := Option.some.inj H
    go_enter Try.func94, Try.ntmps94
    go_wp2
    go_ret
    exact ⟨by first | rfl | (simp; done) | (simp only [← hji4] <;> (first | rfl | simp)) | (simp [*]; done) | (exact congrArg (Value.int .i64) (wrap_eq (by omega))), by repeat (first | exact Drawn0.refl _ | apply Drawn0.step)⟩
  · rw [if_neg c3] at H
    exact absurd H (by simp)

/-! ### impl_needs_1: function 136 -/
def impl_needs_1.f (a0 : Int) (l1 : List (S2)) (l2 : List (S3)) : Option (Bool) := if 0 < (l1.length : Int) then ((impl_bit_uint64.f a0 ((rd_T2 l1 0).f0)).bind fun t283 => (if 0 < (l2.length : Int) then (if 0 ≤ ((rd_T3 l2 0).f0) then ((impl_bit_uint64.f a0 (Go.bits .xor .i64 ((rd_T2 l1 0).f0) (shl .i64 1 ((rd_T3 l2 0).f0)))).bind fun t286 => (some (t283 != t286))) else (none)) else (none))) else (none)
set_option maxHeartbeats 8000000 in
set_option maxRecDepth 100000 in
theorem impl_needs_1.calls (a0 : Int) (adp1 : Addr) (l1 : List (S2)) (adp2 : Addr) (l2 : List (S3)) (r : Bool) (w : World) (hr1 : Kd.C k2 w (some adp1) l1.length l1) (hr2 : Kd.C k3 w (some adp2) l2.length l2) (h : impl_needs_1.f a0 l1 l2 = some r) :
    Calls Try.prog 136 #[.int .u64 a0, .pointer (some adp1), .pointer (some adp2)] w fun e w' => e = .returned (.bool r) ∧ Drawn0 w w' := by
  have HR1 := Aside0.mk hr1
  clear hr1
  have HR2 := Aside0.mk hr2
  clear hr2
  have H : (if 0 < (l1.length : Int) then ((impl_bit_uint64.f a0 ((rd_T2 l1 0).f0)).bind fun t283 => (if 0 < (l2.length : Int) then (if 0 ≤ ((rd_T3 l2 0).f0) then ((impl_bit_uint64.f a0 (Go.bits .xor .i64 ((rd_T2 l1 0).f0) (shl .i64 1 ((rd_T3 l2 0).f0)))).bind fun t286 => (some (t283 != t286))) else (none)) else (none))) else (none)) = some r := h
  clear h
  by_cases c4 : 0 < (l1.length : Int)
  · rw [if_pos c4] at H
    have c4b0 : decide (0 < (l1.length : Int)) = true := decide_eq_true c4
    have c4b1 : decide (0 < l1.length) = true := decide_eq_true (by omega)
    clear c4
    replace H := Option.bind_eq_some_iff.mp H
    obtain ⟨t283, A50, H⟩ := H
    replace H : (if 0 < (l2.length : Int) then (if 0 ≤ ((rd_T3 l2 0).f0) then ((impl_bit_uint64.f a0 (Go.bits .xor .i64 ((rd_T2 l1 0).f0) (shl .i64 1 ((rd_T3 l2 0).f0)))).bind fun t286 => (some (t283 != t286))) else (none)) else (none)) = some r := H
    have A5 := Aside0.mk A50
    clear A50
    by_cases c6 : 0 < (l2.length : Int)
    · rw [if_pos c6] at H
      have c6b0 : decide (0 < (l2.length : Int)) = true := decide_eq_true c6
      have c6b1 : decide (0 < l2.length) = true := decide_eq_true (by omega)
      clear c6
      by_cases c7 : 0 ≤ ((rd_T3 l2 0).f0)
      · rw [if_pos c7] at H
        have c7b0 := eq_true c7
        have c7b1 : decide (0 ≤ ((rd_T3 l2 0).f0)) = true := decide_eq_true c7
        clear c7
        obtain ⟨ji8, hji8⟩ : ∃ j_ : Int, (shl .i64 1 ((rd_T3 l2 0).f0)) = j_ := ⟨_, rfl⟩
        replace H : ((impl_bit_uint64.f a0 (Go.bits .xor .i64 ((rd_T2 l1 0).f0) (ji8))).bind fun t286 => (some (t283 != t286))) = some r := by first | (rw [hji8] at H; exact H) | (simp only [hji8] at H ⊢; exact H)
        (try rw [hji8] at A5)
        have hji8_ : (IntKind.i64.wrap (1 * 2 ^ min ((rd_T3 l2 0).f0).toNat 64)) = ji8 := hji8
        have hji8z : ((rd_T3 l2 0).f0) ≤ 64 → (IntKind.i64.wrap (1 * 2 ^ ((rd_T3 l2 0).f0).toNat)) = ji8 := shl_small hji8
        have hji8u : (IntKind.i64.wrap (2 ^ min ((rd_T3 l2 0).f0).toNat 64)) = ji8 := by have h_ := hji8_; rw [Int.one_mul] at h_; exact h_
        have hji8v : ((rd_T3 l2 0).f0) ≤ 64 → (IntKind.i64.wrap (2 ^ ((rd_T3 l2 0).f0).toNat)) = ji8 := fun hle_ => by have h_ := hji8z hle_; rw [Int.one_mul] at h_; exact h_
        have hji8y : (wrap64 (1 * 2 ^ min ((rd_T3 l2 0).f0).toNat 64)) = ji8 := (i64_w _).symm.trans hji8_
        have hji8x : ((rd_T3 l2 0).f0) ≤ 64 → (wrap64 (1 * 2 ^ ((rd_T3 l2 0).f0).toNat)) = ji8 := fun h_ => (i64_w _).symm.trans (hji8z h_)
        replace H := Option.bind_eq_some_iff.mp H
        obtain ⟨t286, A90, H⟩ := H
        replace H : (some (t283 != t286)) = some r := H
        have A9 := Aside0.mk A90
        clear A90
        obtain rfl := Option.some.inj H
        have p282 : 0 ≤ (0 : Int) := (by omega)
        have q282 : 0 < (l1.length : Int) := of_decide_eq_true (by first | (with_reducible assumption) | assumption)
        obtain ⟨ad282, e282, hx282_0⟩ := at_T2 HR1.out 0 p282 q282
        obtain rfl : adp1 = ad282 := (by injection e282)
        have qi282 : (0 < l1.length) = True := eq_true (by omega)
        (try rw [show ((0 : Int)).toNat = 0 from rfl] at hx282_0)
        (try rw [Addr.add_zero'] at hx282_0)
        replace p282 := eq_true p282
        replace q282 := eq_true q282
        go_enter Try.func136, Try.ntmps136
        go_wp2_with (first | (go_at_call 94; (with_reducible refine (impl_bit_uint64.calls a0 ((rd_T2 l1 0).f0) t283 _ A5.out).mono ?_); rintro e w' ⟨rfl, ⟨nd, rfl⟩⟩; (try first | exact ⟨rfl, _, World.drewN_drewN _ _ _⟩ | exact ⟨rfl, _, Eq.trans (World.drewN_drewN _ _ _) (congrArg (World.drewN _) (Nat.add_assoc _ _ _))⟩); have p284 : 0 ≤ (0 : Int) := (by omega); have q284 : 0 < (l1.length : Int) := of_decide_eq_true (by first | (with_reducible assumption) | assumption); obtain ⟨ad284, e284, hx284_0⟩ := at_T2 HR1.out 0 p284 q284; obtain rfl : adp1 = ad284 := (by injection e284); have qi284 : (0 < l1.length) = True := eq_true (by omega); (try rw [show ((0 : Int)).toNat = 0 from rfl] at hx284_0); (try rw [Addr.add_zero'] at hx284_0); replace p284 := eq_true p284; replace q284 := eq_true q284; have p285 : 0 ≤ (0 : Int) := (by omega); have q285 : 0 < (l2.length : Int) := of_decide_eq_true (by first | (with_reducible assumption) | assumption); obtain ⟨ad285, e285, hx285_0⟩ := at_T3 HR2.out 0 p285 q285; obtain rfl : adp2 = ad285 := (by injection e285); have qi285 : (0 < l2.length) = True := eq_true (by omega); (try rw [show ((0 : Int)).toNat = 0 from rfl] at hx285_0); (try rw [Addr.add_zero'] at hx285_0); replace p285 := eq_true p285; replace q285 := eq_true q285) | (go_at_call 94; (with_reducible refine (impl_bit_uint64.calls a0 (Go.bits .xor .i64 ((rd_T2 l1 0).f0) (ji8)) t286 _ A9.out).mono ?_); rintro e w' ⟨rfl, ⟨nd, rfl⟩⟩; (try first | exact ⟨rfl, _, World.drewN_drewN _ _ _⟩ | exact ⟨rfl, _, Eq.trans (World.drewN_drewN _ _ _) (congrArg (World.drewN _) (Nat.add_assoc _ _ _))⟩)))
        repeat (go_quiet (first | (go_at_call 94; (with_reducible refine (impl_bit_uint64.calls a0 ((rd_T2 l1 0).f0) t283 _ A5.out).mono ?_); rintro e w' ⟨rfl, ⟨nd, rfl⟩⟩; (try first | exact ⟨rfl, _, World.drewN_drewN _ _ _⟩ | exact ⟨rfl, _, Eq.trans (World.drewN_drewN _ _ _) (congrArg (World.drewN _) (Nat.add_assoc _ _ _))⟩); have p284 : 0 ≤ (0 : Int) := (by omega); have q284 : 0 < (l1.length : Int) := of_decide_eq_true (by first | (with_reducible assumption) | assumption); obtain ⟨ad284, e284, hx284_0⟩ := at_T2 HR1.out 0 p284 q284; obtain rfl : adp1 = ad284 := (by injection e284); have qi284 : (0 < l1.length) = True := eq_true (by omega); (try rw [show ((0 : Int)).toNat = 0 from rfl] at hx284_0); (try rw [Addr.add_zero'] at hx284_0); replace p284 := eq_true p284; replace q284 := eq_true q284; have p285 : 0 ≤ (0 : Int) := (by omega); have q285 : 0 < (l2.length : Int) := of_decide_eq_true (by first | (with_reducible assumption) | assumption); obtain ⟨ad285, e285, hx285_0⟩ := at_T3 HR2.out 0 p285 q285; obtain rfl : adp2 = ad285 := (by injection e285); have qi285 : (0 < l2.length) = True := eq_true (by omega); (try rw [show ((0 : Int)).toNat = 0 from rfl] at hx285_0); (try rw [Addr.add_zero'] at hx285_0); replace p285 := eq_true p285; replace q285 := eq_true q285) | (go_at_call 94; (with_reducible refine (impl_bit_uint64.calls a0 (Go.bits .xor .i64 ((rd_T2 l1 0).f0) (ji8)) t286 _ A9.out).mono ?_); rintro e w' ⟨rfl, ⟨nd, rfl⟩⟩; (try first | exact ⟨rfl, _, World.drewN_drewN _ _ _⟩ | exact ⟨rfl, _, Eq.trans (World.drewN_drewN _ _ _) (congrArg (World.drewN _) (Nat.add_assoc _ _ _))⟩))); try go_wp2_with (first | (go_at_call 94; (with_reducible refine (impl_bit_uint64.calls a0 ((rd_T2 l1 0).f0) t283 _ A5.out).mono ?_); rintro e w' ⟨rfl, ⟨nd, rfl⟩⟩; (try first | exact ⟨rfl, _, World.drewN_drewN _ _ _⟩ | exact ⟨rfl, _, Eq.trans (World.drewN_drewN _ _ _) (congrArg (World.drewN _) (Nat.add_assoc _ _ _))⟩); have p284 : 0 ≤ (0 : Int) := (by omega); have q284 : 0 < (l1.length : Int) := of_decide_eq_true (by first | (with_reducible assumption) | assumption); obtain ⟨ad284, e284, hx284_0⟩ := at_T2 HR1.out 0 p284 q284; obtain rfl : adp1 = ad284 := (by injection e284); have qi284 : (0 < l1.length) = True := eq_true (by omega); (try rw [show ((0 : Int)).toNat = 0 from rfl] at hx284_0); (try rw [Addr.add_zero'] at hx284_0); replace p284 := eq_true p284; replace q284 := eq_true q284; have p285 : 0 ≤ (0 : Int) := (by omega); have q285 : 0 < (l2.length : Int) := of_decide_eq_true (by first | (with_reducible assumption) | assumption); obtain ⟨ad285, e285, hx285_0⟩ := at_T3 HR2.out 0 p285 q285; obtain rfl : adp2 = ad285 := (by injection e285); have qi285 : (0 < l2.length) = True := eq_true (by omega); (try rw [show ((0 : Int)).toNat = 0 from rfl] at hx285_0); (try rw [Addr.add_zero'] at hx285_0); replace p285 := eq_true p285; replace q285 := eq_true q285) | (go_at_call 94; (with_reducible refine (impl_bit_uint64.calls a0 (Go.bits .xor .i64 ((rd_T2 l1 0).f0) (ji8)) t286 _ A9.out).mono ?_); rintro e w' ⟨rfl, ⟨nd, rfl⟩⟩; (try first | exact ⟨rfl, _, World.drewN_drewN _ _ _⟩ | exact ⟨rfl, _, Eq.trans (World.drewN_drewN _ _ _) (congrArg (World.drewN _) (Nat.add_assoc _ _ _))⟩))))
        go_ret
        exact ⟨by first | rfl | (simp; done) | (simp only [← hji8] <;> (first | rfl | simp)) | (simp [*]; done) | (exact congrArg (Value.int .i64) (wrap_eq (by omega))), by repeat (first | exact Drawn0.refl _ | apply Drawn0.step)⟩
      · rw [if_neg c7] at H
        exact absurd H (by simp)
    · rw [if_neg c6] at H
      exact absurd H (by simp)
  · rw [if_neg c4] at H
    exact absurd H (by simp)

/-! ### slices_IndexFunc__impl_needs_1: function 166 -/
def slices_IndexFunc__impl_needs_1.l0 : Nat → List Int → Int → Int → List (S2) → List (S3) → Option (Int)
  | 0, _, _, _, _, _ => none
  | k + 1, x0, x7, x8, x2000, x2001 => if x8 < x7 then (if 0 ≤ x8 then (if x8 < (x0.length : Int) then ((impl_needs_1.f (rd x0 x8) x2000 x2001).bind fun t288 => (if t288 = true then (some x8) else (slices_IndexFunc__impl_needs_1.l0 k x0 x7 (wrap64 (x8 + 1)) x2000 x2001))) else (none)) else (none)) else (some (-1))
def slices_IndexFunc__impl_needs_1.f (k : Nat) (l0 : List Int) (l1_0 : List (S2)) (l1_1 : List (S3)) : Option (Int) := slices_IndexFunc__impl_needs_1.l0 k l0 (l0.length : Int) 0 l1_0 l1_1
theorem slices_IndexFunc__impl_needs_1.mono_l : ∀ k, (∀ y0 y1 y2 y3 y4, LeO (slices_IndexFunc__impl_needs_1.l0 k y0 y1 y2 y3 y4) (slices_IndexFunc__impl_needs_1.l0 (k + 1) y0 y1 y2 y3 y4))
  | 0 => fun _ _ _ _ _ r h => by simp [slices_IndexFunc__impl_needs_1.l0] at h
  | k + 1 => by
    have ih0 := slices_IndexFunc__impl_needs_1.mono_l k
    · intro y0 y1 y2 y3 y4
      unfold slices_IndexFunc__impl_needs_1.l0
      repeat' first
      | (with_reducible exact ih0 _ _ _ _ _)
      | (with_reducible exact LeO.refl _)
      | (with_reducible exact LeO.none _)
      | (with_reducible refine LeO.ite ?_ ?_)
      | (with_reducible refine LeO.bind ?_ (fun _ => ?_))
      | exact ih0 _ _ _ _ _
      | exact LeO.none _
      | refine LeO.ite ?_ ?_
      | refine LeO.bind ?_ (fun _ => ?_)
theorem slices_IndexFunc__impl_needs_1.mono : ∀ a0 a1 a2 k, LeO (slices_IndexFunc__impl_needs_1.f k a0 a1 a2) (slices_IndexFunc__impl_needs_1.f (k + 1) a0 a1 a2) := by
  intro a0 a1 a2 k
  have ih0 := slices_IndexFunc__impl_needs_1.mono_l k
  unfold slices_IndexFunc__impl_needs_1.f
  repeat' first
      | (with_reducible exact ih0 _ _ _ _ _)
      | (with_reducible exact LeO.refl _)
      | (with_reducible exact LeO.none _)
      | (with_reducible refine LeO.ite ?_ ?_)
      | (with_reducible refine LeO.bind ?_ (fun _ => ?_))
      | exact ih0 _ _ _ _ _
      | exact LeO.none _
      | refine LeO.ite ?_ ?_
      | refine LeO.bind ?_ (fun _ => ?_)
set_option maxHeartbeats 8000000 in
set_option maxRecDepth 100000 in
theorem slices_IndexFunc__impl_needs_1.calls (k : Nat) (A0 : Option Addr) (c0 : Nat) (l0 : List Int) (adp1_0 : Addr) (l1_0 : List (S2)) (adp1_1 : Addr) (l1_1 : List (S3)) (r : Int) (w : World) (hr0 : Kd.C (Kd.int .u64) w A0 l0.length l0) (hc0 : l0.length ≤ c0) (hr1_0 : Kd.C k2 w (some adp1_0) l1_0.length l1_0) (hr1_1 : Kd.C k3 w (some adp1_1) l1_1.length l1_1) (h : slices_IndexFunc__impl_needs_1.f k l0 l1_0 l1_1 = some r) :
    Calls Try.prog 143 #[.slice A0 l0.length c0, .func (.func 136) #[] #[.pointer (some adp1_0), .pointer (some adp1_1)]] w fun e w' => e = .returned (.int .i64 r) ∧ Drawn0 w w' := by
  have HR0 := Aside0.mk hr0
  have HC0 := Aside0.mk hc0
  clear hr0 hc0
  have HR1_0 := Aside0.mk hr1_0
  clear hr1_0
  have HR1_1 := Aside0.mk hr1_1
  clear hr1_1
  have H : (slices_IndexFunc__impl_needs_1.l0 k l0 (l0.length : Int) 0 l1_0 l1_1) = some r := h
  clear h
  have H' := Aside0.mk H
  clear H
  go_enter Try.func143, Try.ntmps143
  go_wp2
  go_loopg [8] k (fun kq v8 w' => ∃ (x8_1 : Int), v8 = .int .i64 x8_1 ∧ Aside0 (slices_IndexFunc__impl_needs_1.l0 kq l0 (l0.length : Int) x8_1 l1_0 l1_1 = some r) ∧ Aside0 (kq ≤ k) ∧ Drawn0 w w')
  case atStart => exact ⟨(0), (by first | rfl | (simp; done) | (simp [*]; done) | (exact congrArg (Value.int .i64) (wrap_eq (by omega)))), H', ⟨Nat.le_refl _⟩, by repeat (first | exact Drawn0.refl _ | apply Drawn0.step)⟩
  case round =>
    clear H'
    try clear c1
    try clear p2
    obtain ⟨x8_1, rfl, HA, HK1, ⟨m1, rfl⟩⟩ := hrel
    cases gk with
    | zero => exact absurd HA.out (by simp [slices_IndexFunc__impl_needs_1.l0])
    | succ k1 =>
      have H := HA.out
      clear HA
      simp only [slices_IndexFunc__impl_needs_1.l0] at H
      by_cases c3 : x8_1 < (l0.length : Int)
      · rw [if_pos c3] at H
        have c3b0 : decide (x8_1 < (l0.length : Int)) = true := decide_eq_true c3
        clear c3
        by_cases c4 : 0 ≤ x8_1
        · rw [if_pos c4] at H
          have c4b0 : decide (0 ≤ x8_1) = true := decide_eq_true c4
          clear c4
          by_cases c5 : x8_1 < (l0.length : Int)
          · rw [if_pos c5] at H
            have c5b0 : decide (x8_1 < (l0.length : Int)) = true := decide_eq_true c5
            clear c5
            replace H := Option.bind_eq_some_iff.mp H
            obtain ⟨t288, A60, H⟩ := H
            replace H : (if t288 = true then (some x8_1) else (slices_IndexFunc__impl_needs_1.l0 k1 l0 (l0.length : Int) (wrap64 (x8_1 + 1)) l1_0 l1_1)) = some r := H
            have A6 := Aside0.mk A60
            clear A60
            by_cases c7 : t288 = true
            · subst c7
              have H1 : (some x8_1) = some r := by rw [if_pos rfl] at H; exact H
              clear H
              have H := H1
              clear H1
              obtain rfl := Option.some.inj H
              have p287 : 0 ≤ (x8_1 : Int) := of_decide_eq_true (by first | (with_reducible assumption) | assumption)
              have q287 : x8_1 < (l0.length : Int) := of_decide_eq_true (by first | (with_reducible assumption) | assumption)
              obtain ⟨ad287, e287, hx287_0⟩ := Kd.at_int HR0.out x8_1 p287 q287
              cases e287
              replace p287 := eq_true p287
              replace q287 := eq_true q287
              go_wp2_with (first | (go_at_call 136; (with_reducible refine (impl_needs_1.calls (rd l0 x8_1) _ l1_0 _ l1_1 true _ ?side1 ?side2 A6.out).mono ?_); (case side1 => repeat (first | exact HR1_0.out | (with_reducible refine Kd.C_alloc ?_ _) | (with_reducible refine Kd.C_drewN ?_ _) | (with_reducible refine Kd.C_drew ?_))); (case side2 => repeat (first | exact HR1_1.out | (with_reducible refine Kd.C_alloc ?_ _) | (with_reducible refine Kd.C_drewN ?_ _) | (with_reducible refine Kd.C_drew ?_))); rintro e w' ⟨rfl, ⟨nd, rfl⟩⟩))
              go_ret
              exact ⟨by first | rfl | (simp; done) | (simp [*]; done) | (exact congrArg (Value.int .i64) (wrap_eq (by omega))), by repeat (first | exact Drawn0.refl _ | apply Drawn0.step)⟩
            · replace c7 := Bool.eq_false_iff.mpr c7
              subst c7
              have H1 : (slices_IndexFunc__impl_needs_1.l0 k1 l0 (l0.length : Int) (wrap64 (x8_1 + 1)) l1_0 l1_1) = some r := by rw [if_neg (show ¬ (false = true) by decide)] at H; exact H
              clear H
              have H := H1
              clear H1
              have H' := Aside0.mk H
              clear H
              have p287 : 0 ≤ (x8_1 : Int) := of_decide_eq_true (by first | (with_reducible assumption) | assumption)
              have q287 : x8_1 < (l0.length : Int) := of_decide_eq_true (by first | (with_reducible assumption) | assumption)
              obtain ⟨ad287, e287, hx287_0⟩ := Kd.at_int HR0.out x8_1 p287 q287
              cases e287
              replace p287 := eq_true p287
              replace q287 := eq_true q287
              go_wp2_with (first | (go_at_call 136; (with_reducible refine (impl_needs_1.calls (rd l0 x8_1) _ l1_0 _ l1_1 false _ ?side1 ?side2 A6.out).mono ?_); (case side1 => repeat (first | exact HR1_0.out | (with_reducible refine Kd.C_alloc ?_ _) | (with_reducible refine Kd.C_drewN ?_ _) | (with_reducible refine Kd.C_drew ?_))); (case side2 => repeat (first | exact HR1_1.out | (with_reducible refine Kd.C_alloc ?_ _) | (with_reducible refine Kd.C_drewN ?_ _) | (with_reducible refine Kd.C_drew ?_))); rintro e w' ⟨rfl, ⟨nd, rfl⟩⟩))
              go_roundg k1
              case measure => have := HK1.out; omega
              case rel => exact ⟨(wrap64 (x8_1 + 1)), (by first | rfl | (simp; done) | (simp [*]; done) | (exact congrArg (Value.int .i64) (wrap_eq (by omega)))), H', ⟨by have := HK1.out; omega⟩, by repeat (first | exact Drawn0.refl _ | apply Drawn0.step)⟩
          · rw [if_neg c5] at H
            exact absurd H (by simp)
        · rw [if_neg c4] at H
          exact absurd H (by simp)
      · rw [if_neg c3] at H
        have c3b0 : decide (x8_1 < (l0.length : Int)) = false := decide_eq_false c3
        clear c3
        obtain rfl := Option.some.inj H
        go_wp2
        go_ret
        exact ⟨by first | rfl | (simp; done) | (simp [*]; done) | (exact congrArg (Value.int .i64) (wrap_eq (by omega))), by repeat (first | exact Drawn0.refl _ | apply Drawn0.step)⟩

/-! ### slices_ContainsFunc__impl_needs_1: function 165 -/
def slices_ContainsFunc__impl_needs_1.f (k : Nat) (l0 : List Int) (l1_0 : List (S2)) (l1_1 : List (S3)) : Option (Bool) := (slices_IndexFunc__impl_needs_1.f k l0 l1_0 l1_1).bind fun t289 => (some (decide (t289 ≥ 0)))
theorem slices_ContainsFunc__impl_needs_1.mono : ∀ a0 a1 a2 k, LeO (slices_ContainsFunc__impl_needs_1.f k a0 a1 a2) (slices_ContainsFunc__impl_needs_1.f (k + 1) a0 a1 a2) := by
  intro a0 a1 a2 k
  unfold slices_ContainsFunc__impl_needs_1.f
  repeat' first
      | (with_reducible exact slices_IndexFunc__impl_needs_1.mono _ _ _ _)
      | (with_reducible exact LeO.refl _)
      | (with_reducible exact LeO.none _)
      | (with_reducible refine LeO.ite ?_ ?_)
      | (with_reducible refine LeO.bind ?_ (fun _ => ?_))
      | exact slices_IndexFunc__impl_needs_1.mono _ _ _ _
      | exact LeO.none _
      | refine LeO.ite ?_ ?_
      | refine LeO.bind ?_ (fun _ => ?_)
set_option maxHeartbeats 8000000 in
set_option maxRecDepth 100000 in
theorem slices_ContainsFunc__impl_needs_1.calls (k : Nat) (A0 : Option Addr) (c0 : Nat) (l0 : List Int) (adp1_0 : Addr) (l1_0 : List (S2)) (adp1_1 : Addr) (l1_1 : List (S3)) (r : Bool) (w : World) (hr0 : Kd.C (Kd.int .u64) w A0 l0.length l0) (hc0 : l0.length ≤ c0) (hr1_0 : Kd.C k2 w (some adp1_0) l1_0.length l1_0) (hr1_1 : Kd.C k3 w (some adp1_1) l1_1.length l1_1) (h : slices_ContainsFunc__impl_needs_1.f k l0 l1_0 l1_1 = some r) :
    Calls Try.prog 135 #[.slice A0 l0.length c0, .func (.func 136) #[] #[.pointer (some adp1_0), .pointer (some adp1_1)]] w fun e w' => e = .returned (.bool r) ∧ Drawn0 w w' := by
  have HR0 := Aside0.mk hr0
  have HC0 := Aside0.mk hc0
  clear hr0 hc0
  have HR1_0 := Aside0.mk hr1_0
  clear hr1_0
  have HR1_1 := Aside0.mk hr1_1
  clear hr1_1
  have H : ((slices_IndexFunc__impl_needs_1.f k l0 l1_0 l1_1).bind fun t289 => (some (decide (t289 ≥ 0)))) = some r := h
  clear h
  replace H := Option.bind_eq_some_iff.mp H
  obtain ⟨t289, A30, H⟩ := H
  replace H : (some (decide (t289 ≥ 0))) = some r := H
  have A3 := Aside0.mk A30
  clear A30
  obtain rfl := Option.some.inj H
  go_enter Try.func135, Try.ntmps135
  go_wp2_with (first | ((with_reducible refine gate_callee (f := 143) rfl ?_); refine goesL_ (some 7) rfl rfl Try.func143 (by kernel_rfl) rfl #[.slice A0 l0.length c0, .func (.func 136) #[] #[.pointer (some adp1_0), .pointer (some adp1_1)]] rfl (by (try simp only [List.map_toArray, List.map_cons, List.map_nil]); first | done | rfl | (simp only [List.length_drop, List.length_take]; rfl)) ?_; (with_reducible refine (slices_IndexFunc__impl_needs_1.calls k _ _ l0 _ l1_0 _ l1_1 t289 _ ?side1 ?side2 ?side3 ?side4 A3.out).mono ?_); (case side1 => repeat (first | exact HR0.out | (with_reducible refine Kd.C_alloc ?_ _) | (with_reducible refine Kd.C_drewN ?_ _) | (with_reducible refine Kd.C_drew ?_))); (case side2 => exact HC0.out); (case side3 => repeat (first | exact HR1_0.out | (with_reducible refine Kd.C_alloc ?_ _) | (with_reducible refine Kd.C_drewN ?_ _) | (with_reducible refine Kd.C_drew ?_))); (case side4 => repeat (first | exact HR1_1.out | (with_reducible refine Kd.C_alloc ?_ _) | (with_reducible refine Kd.C_drewN ?_ _) | (with_reducible refine Kd.C_drew ?_))); rintro e w' ⟨rfl, ⟨nd, rfl⟩⟩; refine ⟨_, rfl, ?_⟩))
  go_ret
  exact ⟨by first | rfl | (simp; done) | (simp [*]; done) | (exact congrArg (Value.int .i64) (wrap_eq (by omega))), by repeat (first | exact Drawn0.refl _ | apply Drawn0.step)⟩

end Go.Proofs.Ytmpmanfoiocfgaa.PFnExactNeedsOf
