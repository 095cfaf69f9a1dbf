-- short
-- WRITTEN by xprint.py, a program of this session's. Not trusted: Lean checks it.
import Derived.Test.YtffnfpnajkgnaaaPFnExactValidMachinex0
import Derived.Test.YtffnfpnajkgnaaaPFnExactValidMachinex4
namespace Go.Proofs.Ytffnfpnajkgnaaa.PFnExactValidMachine
open Go.RowKit Go.Proofs.YtffnfpnajkgnaaaW.PrintWords Go.Proofs.YtffnfpnajkgnaaaW.PrintLast Go.Proofs.YtffnfpnajkgnaaaW.PrintMore Go.Proofs.YtffnfpnajkgnaaaX
attribute [local go_sem] max2_int min2_int max_two min_two max_three min_three max_four min_four   -- for this text's walks alone
set_option linter.unusedVariables false
set_option linter.unusedSimpArgs false

/-! ### laws_eqPortS: function 92 -/
def laws_eqPortS.l0 : Nat → List (S116) → List (S116) → Int → Option (Bool)
 | 0, _, _, _ => none
 | k + 1, x0, x1, x5 => if x5 < (x0.length : Int) then (if 0 ≤ x5 then (if x5 < (x1.length : Int) then ((laws_eqPort.f k ((rd_T116 x0 x5).f0.f0) ((rd_T116 x0 x5).f0.f1) ((rd_T116 x0 x5).f1) ((rd_T116 x1 x5).f0.f0) ((rd_T116 x1 x5).f0.f1) ((rd_T116 x1 x5).f1)).bind fun t181 => (if t181 = true then (laws_eqPortS.l0 k x0 x1 (wrap64 (x5 + 1))) else (some false))) else (none)) else (none)) else (some true)
def laws_eqPortS.f (k : Nat) (l0 : List (S116)) (l1 : List (S116)) : Option (Bool) := if (l0.length : Int) = (l1.length : Int) then (laws_eqPortS.l0 k l0 l1 0) else (some false)
theorem laws_eqPortS.mono_l : ∀ k, (∀ y0 y1 y2, LeO (laws_eqPortS.l0 k y0 y1 y2) (laws_eqPortS.l0 (k + 1) y0 y1 y2))
 | 0 => fun _ _ _ r h => by simp [laws_eqPortS.l0] at h
 | k + 1 => by
  have ih0 := laws_eqPortS.mono_l k
  ·intro y0 y1 y2
   unfold laws_eqPortS.l0
   repeat' first
   | (with_reducible exact ih0 _ _ _)
   | (with_reducible exact laws_eqPort.mono _ _ _ _ _ _ _)
   | (with_reducible exact LeO.refl _)
   | (with_reducible exact LeO.none _)
   | (with_reducible refine LeO.ite ?_ ?_)
   | (with_reducible refine LeO.bind ?_ (fun _ => ?_))
   | exact ih0 _ _ _
   | exact laws_eqPort.mono _ _ _ _ _ _ _
   | exact LeO.none _
   | refine LeO.ite ?_ ?_
   | refine LeO.bind ?_ (fun _ => ?_)
theorem laws_eqPortS.mono : ∀ a0 a1 k, LeO (laws_eqPortS.f k a0 a1) (laws_eqPortS.f (k + 1) a0 a1) := by
 intro a0 a1 k
 have ih0 := laws_eqPortS.mono_l k
 unfold laws_eqPortS.f
 repeat' first
   | (with_reducible exact ih0 _ _ _)
   | (with_reducible exact laws_eqPort.mono _ _ _ _ _ _ _)
   | (with_reducible exact LeO.refl _)
   | (with_reducible exact LeO.none _)
   | (with_reducible refine LeO.ite ?_ ?_)
   | (with_reducible refine LeO.bind ?_ (fun _ => ?_))
   | exact ih0 _ _ _
   | exact laws_eqPort.mono _ _ _ _ _ _ _
   | exact LeO.none _
   | refine LeO.ite ?_ ?_
   | refine LeO.bind ?_ (fun _ => ?_)
def laws_eqPortS.T6 : Bool × List (List Nat × List Nat) := (true, [([], []), ([], []), ([0, 1], [0, 1]), ([2], [2]), ([], []), ([], []), ([4, 5], [4, 5]), ([6], [6]), ([3, 7], [3, 7]), ([8], [8])])
def laws_eqPortS.B6 : List Nat := [0, 0, 3, 7, 0, 0, 48, 112, 255, 511]
theorem laws_eqPortS.tab6 : rtab .any (opsOf Try.f92 6) = laws_eqPortS.T6 := by kernel_rfl
theorem laws_eqPortS.bits6 : waitsOk laws_eqPortS.T6.2 laws_eqPortS.B6 = true := by kernel_rfl
set_option maxHeartbeats 8000000 in
set_option maxRecDepth 100000 in
theorem laws_eqPortS.calls (k : Nat) (A0 : Option Addr) (c0 : Nat) (l0 : List (S116)) (A1 : Option Addr) (c1 : Nat) (l1 : List (S116)) (r : Bool) (w : World) (hr0 : Kd.C k116 w A0 l0.length l0) (hc0 : l0.length ≤ c0) (hr1 : Kd.C k116 w A1 l1.length l1) (hc1 : l1.length ≤ c1) (h : laws_eqPortS.f k l0 l1 = some r) :
  Calls Try.prog 92 #[.slice A0 l0.length c0, .slice A1 l1.length c1] w fun e w' => e = .returned (.bool r) ∧ Below w.heap.size w w' := by
 have hu116 := Try.underlying116
 have HR0 := zN hr0
 have HC0 := zN hc0
 clear hr0 hc0
 have HR1 := zN hr1
 have HC1 := zN hc1
 clear hr1 hc1
 have HB := zN (Below.refl w.heap.size w)
 have H : (if (l0.length : Int) = (l1.length : Int) then (laws_eqPortS.l0 k l0 l1 0) else (some false)) = some r := h
 clear h
 by_cases c3 : (l0.length : Int) = (l1.length : Int)
 ·rw [if_pos c3] at H
  have c3b0 : ((l0.length : Int) == (l1.length : Int)) = true := beq_iff_eq.mpr c3
  have c3b1 : ((l0.length : Int) != (l1.length : Int)) = false := bne_eq_false_iff_eq.mpr c3
  have c3b2 : (l0.length == l1.length) = true := by first | simpa using c3 | (simp at c3 ⊢; omega)
  clear c3
  have H' := zN H
  clear H
  go_enter Try.func92, Try.ntmps92
  go_wp2
  go_loopg [5] k (fun kq v5 w' => ∃ (x5_1 : Int), v5 = .int .i64 x5_1 ∧ Aside0 (laws_eqPortS.l0 kq l0 l1 x5_1 = some r) ∧ Aside0 (kq ≤ k) ∧ Aside0 (Below w.heap.size w w'))
  case atStart => exact ⟨(0), (by first | rfl | (simp; done) | (simp [*]; done) | (exact congrArg (Value.int .i64) (wrap_eq (by omega)))), H', ⟨Nat.le_refl _⟩, ⟨by repeat (first | (with_reducible first | exact HB.out | apply zA | apply zB | apply zC) | exact HB.out)⟩⟩
  case round =>
   clear H'
   try clear c1
   try clear p2
   try clear c3
   try clear c3b0
   try clear c3b1
   try clear c3b2
   obtain ⟨x5_1, rfl, HA, HK1, HB⟩ := hrel
   cases gk with
   | zero => exact absurd HA.out (by simp [laws_eqPortS.l0])
   | succ k1 =>
    have H := HA.out
    clear HA
    simp only [laws_eqPortS.l0] at H
    by_cases c4 : x5_1 < (l0.length : Int)
    ·rw [if_pos c4] at H
     have c4b0 : decide (x5_1 < (l0.length : Int)) = true := decide_eq_true c4
     clear c4
     by_cases c5 : 0 ≤ x5_1
     ·rw [if_pos c5] at H
      have c5b0 : decide (0 ≤ x5_1) = true := decide_eq_true c5
      clear c5
      by_cases c6 : x5_1 < (l1.length : Int)
      ·rw [if_pos c6] at H
       have c6b0 : decide (x5_1 < (l1.length : Int)) = true := decide_eq_true c6
       clear c6
       replace H := Option.bind_eq_some_iff.mp H
       obtain ⟨t181, A70, H⟩ := H
       replace H : (if t181 = true then (laws_eqPortS.l0 k1 l0 l1 (wrap64 (x5_1 + 1))) else (some false)) = some r := H
       have A7 := zN A70
       clear A70
       by_cases c8 : t181 = true
       ·subst c8
        have H1 : (laws_eqPortS.l0 k1 l0 l1 (wrap64 (x5_1 + 1))) = some r := by rw [if_pos rfl] at H; exact H
        clear H
        have H := H1
        clear H1
        have H' := zN H
        clear H
        try go_wp2
        have n0_ := zN (zC HB.out)
        clear HB
        have HB := n0_
        clear n0_
        have p179 : 0 ≤ (x5_1 : Int) := zJ (by first | (with_reducible assumption) | assumption)
        have q179 : x5_1 < (l0.length : Int) := zJ (by first | (with_reducible assumption) | assumption)
        obtain ⟨ad179, e179, hx179_0, hx179_1, hx179_2⟩ := at_T116 HR0.out x5_1 p179 q179
        have hw179_2 := hx179_2
        have hw179_1 := hx179_1
        have hw179_0 := hx179_0
        cases e179
        replace hx179_0 := (HB.out.cell (zH w _ hx179_0)).trans hx179_0
        replace hx179_1 := (HB.out.cell (zH w _ hx179_1)).trans hx179_1
        replace hx179_2 := (HB.out.cell (zH w _ hx179_2)).trans hx179_2
        replace p179 := eq_true p179
        replace q179 := eq_true q179
        have p180 : 0 ≤ (x5_1 : Int) := zJ (by first | (with_reducible assumption) | assumption)
        have q180 : x5_1 < (l1.length : Int) := zJ (by first | (with_reducible assumption) | assumption)
        obtain ⟨ad180, e180, hx180_0, hx180_1, hx180_2⟩ := at_T116 HR1.out x5_1 p180 q180
        have hw180_2 := hx180_2
        have hw180_1 := hx180_1
        have hw180_0 := hx180_0
        cases e180
        replace hx180_0 := (HB.out.cell (zH w _ hx180_0)).trans hx180_0
        replace hx180_1 := (HB.out.cell (zH w _ hx180_1)).trans hx180_1
        replace hx180_2 := (HB.out.cell (zH w _ hx180_2)).trans hx180_2
        replace p180 := eq_true p180
        replace q180 := eq_true q180
        refine start_ (n := 10) (S := fun w' => w'.cell? (ad179.add ((x5_1).toNat * 3)) = some (.int .i8 ((rd_T116 l0 x5_1).f0.f0)) ∧ w'.cell? ⟨(ad179.add ((x5_1).toNat * 3)).block, (ad179.add ((x5_1).toNat * 3)).off + 1, none⟩ = some (.int .i8 ((rd_T116 l0 x5_1).f0.f1)) ∧ w'.cell? ⟨(ad179.add ((x5_1).toNat * 3)).block, (ad179.add ((x5_1).toNat * 3)).off + 2, none⟩ = some (.int .i8 ((rd_T116 l0 x5_1).f1)) ∧ w'.cell? (ad180.add ((x5_1).toNat * 3)) = some (.int .i8 ((rd_T116 l1 x5_1).f0.f0)) ∧ w'.cell? ⟨(ad180.add ((x5_1).toNat * 3)).block, (ad180.add ((x5_1).toNat * 3)).off + 1, none⟩ = some (.int .i8 ((rd_T116 l1 x5_1).f0.f1)) ∧ w'.cell? ⟨(ad180.add ((x5_1).toNat * 3)).block, (ad180.add ((x5_1).toNat * 3)).off + 2, none⟩ = some (.int .i8 ((rd_T116 l1 x5_1).f1))) (ds := []) #[false, false, false, false, false, false, false, false, false, false] (by kernel_rfl) rfl rfl ⟨((HB.out.cell (zH w _ hw179_0)).trans hw179_0), ((HB.out.cell (zH w _ hw179_1)).trans hw179_1), ((HB.out.cell (zH w _ hw179_2)).trans hw179_2), ((HB.out.cell (zH w _ hw180_0)).trans hw180_0), ((HB.out.cell (zH w _ hw180_1)).trans hw180_1), ((HB.out.cell (zH w _ hw180_2)).trans hw180_2)⟩ (fun hHeld => ?_); refine with_tabW laws_eqPortS.tab6 laws_eqPortS.bits6 (fun HT_ HW_ => ?_)
        generalize wr.drew = w9 at HB hx179_0 hx179_1 hx179_2 hx180_0 hx180_1 hx180_2 hHeld ⊢
        refine pure_ (i := 0) (N := some 17) (v := ?_) (a' := ?_) #[true, false, false, false, false, false, false, false, false, false] rfl rfl (any_of HT_.out (by kernel_rfl)) (fun _ _ _ h => h) (Or.inl ⟨by rfl, ?_⟩) ?_ ?_
        rotate_left
        ·intro w'
         go_simp
         with_reducible rfl
        rotate_left
        ·simp only [Act.put, List.setIfInBounds_toArray, List.set_cons_zero, List.set_cons_succ, i64_w, i32_w]
         rfl
        refine pure_ (i := 1) (N := some 18) (v := ?_) (a' := ?_) #[true, true, false, false, false, false, false, false, false, false] rfl rfl (any_of HT_.out (by kernel_rfl)) (fun _ _ _ h => h) (Or.inl ⟨by rfl, ?_⟩) ?_ ?_
        rotate_left
        ·intro w'
         go_simp
         with_reducible rfl
        rotate_left
        ·simp only [Act.put, List.setIfInBounds_toArray, List.set_cons_zero, List.set_cons_succ, i64_w, i32_w]
         rfl
        refine pure_ (i := 2) (N := some 19) (v := ?_) (a' := ?_) #[true, true, true, false, false, false, false, false, false, false] rfl rfl (any_of HT_.out (by kernel_rfl)) (fun _ _ _ h => h) (Or.inl ⟨by rfl, ?_⟩) ?_ ?_
        rotate_left
        ·intro w'
         go_simp
         with_reducible rfl
        rotate_left
        ·simp only [Act.put, List.setIfInBounds_toArray, List.set_cons_zero, List.set_cons_succ, i64_w, i32_w]
         rfl
        refine pure_ (i := 4) (N := some 21) (v := ?_) (a' := ?_) #[true, true, true, false, true, false, false, false, false, false] rfl rfl (any_of HT_.out (by kernel_rfl)) (fun _ _ _ h => h) (Or.inl ⟨by rfl, ?_⟩) ?_ ?_
        rotate_left
        ·intro w'
         go_simp
         with_reducible rfl
        rotate_left
        ·simp only [Act.put, List.setIfInBounds_toArray, List.set_cons_zero, List.set_cons_succ, i64_w, i32_w]
         rfl
        refine pure_ (i := 5) (N := some 22) (v := ?_) (a' := ?_) #[true, true, true, false, true, true, false, false, false, false] rfl rfl (any_of HT_.out (by kernel_rfl)) (fun _ _ _ h => h) (Or.inl ⟨by rfl, ?_⟩) ?_ ?_
        rotate_left
        ·intro w'
         go_simp
         with_reducible rfl
        rotate_left
        ·simp only [Act.put, List.setIfInBounds_toArray, List.set_cons_zero, List.set_cons_succ, i64_w, i32_w]
         rfl
        refine pure_ (i := 6) (N := some 23) (v := ?_) (a' := ?_) #[true, true, true, false, true, true, true, false, false, false] rfl rfl (any_of HT_.out (by kernel_rfl)) (fun _ _ _ h => h) (Or.inl ⟨by rfl, ?_⟩) ?_ ?_
        rotate_left
        ·intro w'
         go_simp
         with_reducible rfl
        rotate_left
        ·simp only [Act.put, List.setIfInBounds_toArray, List.set_cons_zero, List.set_cons_succ, i64_w, i32_w]
         rfl
        refine take_ (i := 3) (N := some 20) (v := ?_) (a' := ?_) #[true, true, true, true, true, true, true, false, false, false] rfl rfl (take_ofW HT_.out HW_.out (by kernel_rfl)) (fun _ _ _ h => h) (Or.inl ⟨by rfl, ?_⟩) hHeld ?_ ?_
        rotate_left
        ·rintro w' ⟨s0, s1, s2, s3, s4, s5⟩
         go_simp
         with_reducible rfl
        rotate_left
        ·simp only [Act.put, List.setIfInBounds_toArray, List.set_cons_zero, List.set_cons_succ, i64_w, i32_w]
         rfl
        refine take_ (i := 7) (N := some 24) (v := ?_) (a' := ?_) #[true, true, true, true, true, true, true, true, false, false] rfl rfl (take_ofW HT_.out HW_.out (by kernel_rfl)) (fun _ _ _ h => h) (Or.inl ⟨by rfl, ?_⟩) hHeld ?_ ?_
        rotate_left
        ·rintro w' ⟨s0, s1, s2, s3, s4, s5⟩
         go_simp
         with_reducible rfl
        rotate_left
        ·simp only [Act.put, List.setIfInBounds_toArray, List.set_cons_zero, List.set_cons_succ, i64_w, i32_w]
         rfl
        refine one_ (i := 8) (N := some 25) #[true, true, true, true, true, true, true, true, true, false] rfl rfl (one_of HT_.out (by kernel_rfl)) (by decide) (fun K hK => ?_)
        refine goes_ Try.func160 (by kernel_rfl) rfl #[.agg #[.int .i8 ((rd_T116 l0 x5_1).f0.f0), .int .i8 ((rd_T116 l0 x5_1).f0.f1), .int .i8 ((rd_T116 l0 x5_1).f1)], .agg #[.int .i8 ((rd_T116 l1 x5_1).f0.f0), .int .i8 ((rd_T116 l1 x5_1).f0.f1), .int .i8 ((rd_T116 l1 x5_1).f1)]] (by rfl) rfl rfl (by (try simp only [List.map_toArray, List.map_cons, List.map_nil]); first | done | rfl | (simp only [List.length_drop, List.length_take]; rfl)) ?_
        with_reducible refine (laws_eqPort.calls k1 ((rd_T116 l0 x5_1).f0.f0) ((rd_T116 l0 x5_1).f0.f1) ((rd_T116 l0 x5_1).f1) ((rd_T116 l1 x5_1).f0.f0) ((rd_T116 l1 x5_1).f0.f1) ((rd_T116 l1 x5_1).f1) true _ A7.out).mono ?_
        rintro e w10 ⟨rfl, hb⟩
        refine ⟨_, rfl, ?_⟩
        have n0_ := zN (below_step (by repeat (first | (with_reducible first | exact HB.out | apply zA | apply zB | apply zC) | exact HB.out)) hb)
        clear HB
        have HB := n0_
        clear n0_
        (try clear hb)
        (try clear hb2)
        (try clear hk)
        (try clear hi)
        refine hK.out _ _ ⟨((HB.out.cell (zH w _ hw179_0)).trans hw179_0), ((HB.out.cell (zH w _ hw179_1)).trans hw179_1), ((HB.out.cell (zH w _ hw179_2)).trans hw179_2), ((HB.out.cell (zH w _ hw180_0)).trans hw180_0), ((HB.out.cell (zH w _ hw180_1)).trans hw180_1), ((HB.out.cell (zH w _ hw180_2)).trans hw180_2)⟩ (fun hHeld => ?_)
        clear hK K
        refine norm_ (a' := ?_) ?_ ?_
        rotate_left
        ·show Act.put _ (some 25) _ = _
         simp only [Act.put, List.setIfInBounds_toArray, List.set_cons_zero, List.set_cons_succ, i64_w, i32_w]
         rfl
        refine pure_ (i := 9) (N := some 26) (v := ?_) (a' := ?_) #[true, true, true, true, true, true, true, true, true, true] rfl rfl (any_of HT_.out (by kernel_rfl)) (fun _ _ _ h => h) (Or.inl ⟨by rfl, ?_⟩) ?_ ?_
        rotate_left
        ·intro w'
         go_simp
         with_reducible rfl
        rotate_left
        ·simp only [Act.put, List.setIfInBounds_toArray, List.set_cons_zero, List.set_cons_succ, i64_w, i32_w]
         rfl
        refine done_ (done_of HT_.out (by kernel_rfl)) ?_
        try go_wp2
        go_roundg k1
        case measure => have := HK1.out; omega
        case rel => exact ⟨(wrap64 (x5_1 + 1)), (by first | rfl | (simp; done) | (simp [*]; done) | (exact congrArg (Value.int .i64) (wrap_eq (by omega)))), H', ⟨by have := HK1.out; omega⟩, ⟨by repeat (first | (with_reducible first | exact HB.out | apply zA | apply zB | apply zC) | exact HB.out)⟩⟩
       ·replace c8 := Bool.eq_false_iff.mpr c8
        subst c8
        have H1 : (some false) = some r := by rw [if_neg (show ¬ (false = true) by decide)] at H; exact H
        clear H
        have H := H1
        clear H1
        obtain rfl := Option.some.inj H
        try go_wp2
        have n0_ := zN (zC HB.out)
        clear HB
        have HB := n0_
        clear n0_
        have p179 : 0 ≤ (x5_1 : Int) := zJ (by first | (with_reducible assumption) | assumption)
        have q179 : x5_1 < (l0.length : Int) := zJ (by first | (with_reducible assumption) | assumption)
        obtain ⟨ad179, e179, hx179_0, hx179_1, hx179_2⟩ := at_T116 HR0.out x5_1 p179 q179
        have hw179_2 := hx179_2
        have hw179_1 := hx179_1
        have hw179_0 := hx179_0
        cases e179
        replace hx179_0 := (HB.out.cell (zH w _ hx179_0)).trans hx179_0
        replace hx179_1 := (HB.out.cell (zH w _ hx179_1)).trans hx179_1
        replace hx179_2 := (HB.out.cell (zH w _ hx179_2)).trans hx179_2
        replace p179 := eq_true p179
        replace q179 := eq_true q179
        have p180 : 0 ≤ (x5_1 : Int) := zJ (by first | (with_reducible assumption) | assumption)
        have q180 : x5_1 < (l1.length : Int) := zJ (by first | (with_reducible assumption) | assumption)
        obtain ⟨ad180, e180, hx180_0, hx180_1, hx180_2⟩ := at_T116 HR1.out x5_1 p180 q180
        have hw180_2 := hx180_2
        have hw180_1 := hx180_1
        have hw180_0 := hx180_0
        cases e180
        replace hx180_0 := (HB.out.cell (zH w _ hx180_0)).trans hx180_0
        replace hx180_1 := (HB.out.cell (zH w _ hx180_1)).trans hx180_1
        replace hx180_2 := (HB.out.cell (zH w _ hx180_2)).trans hx180_2
        replace p180 := eq_true p180
        replace q180 := eq_true q180
        refine start_ (n := 10) (S := fun w' => w'.cell? (ad179.add ((x5_1).toNat * 3)) = some (.int .i8 ((rd_T116 l0 x5_1).f0.f0)) ∧ w'.cell? ⟨(ad179.add ((x5_1).toNat * 3)).block, (ad179.add ((x5_1).toNat * 3)).off + 1, none⟩ = some (.int .i8 ((rd_T116 l0 x5_1).f0.f1)) ∧ w'.cell? ⟨(ad179.add ((x5_1).toNat * 3)).block, (ad179.add ((x5_1).toNat * 3)).off + 2, none⟩ = some (.int .i8 ((rd_T116 l0 x5_1).f1)) ∧ w'.cell? (ad180.add ((x5_1).toNat * 3)) = some (.int .i8 ((rd_T116 l1 x5_1).f0.f0)) ∧ w'.cell? ⟨(ad180.add ((x5_1).toNat * 3)).block, (ad180.add ((x5_1).toNat * 3)).off + 1, none⟩ = some (.int .i8 ((rd_T116 l1 x5_1).f0.f1)) ∧ w'.cell? ⟨(ad180.add ((x5_1).toNat * 3)).block, (ad180.add ((x5_1).toNat * 3)).off + 2, none⟩ = some (.int .i8 ((rd_T116 l1 x5_1).f1))) (ds := []) #[false, false, false, false, false, false, false, false, false, false] (by kernel_rfl) rfl rfl ⟨((HB.out.cell (zH w _ hw179_0)).trans hw179_0), ((HB.out.cell (zH w _ hw179_1)).trans hw179_1), ((HB.out.cell (zH w _ hw179_2)).trans hw179_2), ((HB.out.cell (zH w _ hw180_0)).trans hw180_0), ((HB.out.cell (zH w _ hw180_1)).trans hw180_1), ((HB.out.cell (zH w _ hw180_2)).trans hw180_2)⟩ (fun hHeld => ?_); refine with_tabW laws_eqPortS.tab6 laws_eqPortS.bits6 (fun HT_ HW_ => ?_)
        generalize wr.drew = w11 at HB hx179_0 hx179_1 hx179_2 hx180_0 hx180_1 hx180_2 hHeld ⊢
        refine pure_ (i := 0) (N := some 17) (v := ?_) (a' := ?_) #[true, false, false, false, false, false, false, false, false, false] rfl rfl (any_of HT_.out (by kernel_rfl)) (fun _ _ _ h => h) (Or.inl ⟨by rfl, ?_⟩) ?_ ?_
        rotate_left
        ·intro w'
         go_simp
         with_reducible rfl
        rotate_left
        ·simp only [Act.put, List.setIfInBounds_toArray, List.set_cons_zero, List.set_cons_succ, i64_w, i32_w]
         rfl
        refine pure_ (i := 1) (N := some 18) (v := ?_) (a' := ?_) #[true, true, false, false, false, false, false, false, false, false] rfl rfl (any_of HT_.out (by kernel_rfl)) (fun _ _ _ h => h) (Or.inl ⟨by rfl, ?_⟩) ?_ ?_
        rotate_left
        ·intro w'
         go_simp
         with_reducible rfl
        rotate_left
        ·simp only [Act.put, List.setIfInBounds_toArray, List.set_cons_zero, List.set_cons_succ, i64_w, i32_w]
         rfl
        refine pure_ (i := 2) (N := some 19) (v := ?_) (a' := ?_) #[true, true, true, false, false, false, false, false, false, false] rfl rfl (any_of HT_.out (by kernel_rfl)) (fun _ _ _ h => h) (Or.inl ⟨by rfl, ?_⟩) ?_ ?_
        rotate_left
        ·intro w'
         go_simp
         with_reducible rfl
        rotate_left
        ·simp only [Act.put, List.setIfInBounds_toArray, List.set_cons_zero, List.set_cons_succ, i64_w, i32_w]
         rfl
        refine pure_ (i := 4) (N := some 21) (v := ?_) (a' := ?_) #[true, true, true, false, true, false, false, false, false, false] rfl rfl (any_of HT_.out (by kernel_rfl)) (fun _ _ _ h => h) (Or.inl ⟨by rfl, ?_⟩) ?_ ?_
        rotate_left
        ·intro w'
         go_simp
         with_reducible rfl
        rotate_left
        ·simp only [Act.put, List.setIfInBounds_toArray, List.set_cons_zero, List.set_cons_succ, i64_w, i32_w]
         rfl
        refine pure_ (i := 5) (N := some 22) (v := ?_) (a' := ?_) #[true, true, true, false, true, true, false, false, false, false] rfl rfl (any_of HT_.out (by kernel_rfl)) (fun _ _ _ h => h) (Or.inl ⟨by rfl, ?_⟩) ?_ ?_
        rotate_left
        ·intro w'
         go_simp
         with_reducible rfl
        rotate_left
        ·simp only [Act.put, List.setIfInBounds_toArray, List.set_cons_zero, List.set_cons_succ, i64_w, i32_w]
         rfl
        refine pure_ (i := 6) (N := some 23) (v := ?_) (a' := ?_) #[true, true, true, false, true, true, true, false, false, false] rfl rfl (any_of HT_.out (by kernel_rfl)) (fun _ _ _ h => h) (Or.inl ⟨by rfl, ?_⟩) ?_ ?_
        rotate_left
        ·intro w'
         go_simp
         with_reducible rfl
        rotate_left
        ·simp only [Act.put, List.setIfInBounds_toArray, List.set_cons_zero, List.set_cons_succ, i64_w, i32_w]
         rfl
        refine take_ (i := 3) (N := some 20) (v := ?_) (a' := ?_) #[true, true, true, true, true, true, true, false, false, false] rfl rfl (take_ofW HT_.out HW_.out (by kernel_rfl)) (fun _ _ _ h => h) (Or.inl ⟨by rfl, ?_⟩) hHeld ?_ ?_
        rotate_left
        ·rintro w' ⟨s0, s1, s2, s3, s4, s5⟩
         go_simp
         with_reducible rfl
        rotate_left
        ·simp only [Act.put, List.setIfInBounds_toArray, List.set_cons_zero, List.set_cons_succ, i64_w, i32_w]
         rfl
        refine take_ (i := 7) (N := some 24) (v := ?_) (a' := ?_) #[true, true, true, true, true, true, true, true, false, false] rfl rfl (take_ofW HT_.out HW_.out (by kernel_rfl)) (fun _ _ _ h => h) (Or.inl ⟨by rfl, ?_⟩) hHeld ?_ ?_
        rotate_left
        ·rintro w' ⟨s0, s1, s2, s3, s4, s5⟩
         go_simp
         with_reducible rfl
        rotate_left
        ·simp only [Act.put, List.setIfInBounds_toArray, List.set_cons_zero, List.set_cons_succ, i64_w, i32_w]
         rfl
        refine one_ (i := 8) (N := some 25) #[true, true, true, true, true, true, true, true, true, false] rfl rfl (one_of HT_.out (by kernel_rfl)) (by decide) (fun K hK => ?_)
        refine goes_ Try.func160 (by kernel_rfl) rfl #[.agg #[.int .i8 ((rd_T116 l0 x5_1).f0.f0), .int .i8 ((rd_T116 l0 x5_1).f0.f1), .int .i8 ((rd_T116 l0 x5_1).f1)], .agg #[.int .i8 ((rd_T116 l1 x5_1).f0.f0), .int .i8 ((rd_T116 l1 x5_1).f0.f1), .int .i8 ((rd_T116 l1 x5_1).f1)]] (by rfl) rfl rfl (by (try simp only [List.map_toArray, List.map_cons, List.map_nil]); first | done | rfl | (simp only [List.length_drop, List.length_take]; rfl)) ?_
        with_reducible refine (laws_eqPort.calls k1 ((rd_T116 l0 x5_1).f0.f0) ((rd_T116 l0 x5_1).f0.f1) ((rd_T116 l0 x5_1).f1) ((rd_T116 l1 x5_1).f0.f0) ((rd_T116 l1 x5_1).f0.f1) ((rd_T116 l1 x5_1).f1) false _ A7.out).mono ?_
        rintro e w12 ⟨rfl, hb⟩
        refine ⟨_, rfl, ?_⟩
        have n0_ := zN (below_step (by repeat (first | (with_reducible first | exact HB.out | apply zA | apply zB | apply zC) | exact HB.out)) hb)
        clear HB
        have HB := n0_
        clear n0_
        (try clear hb)
        (try clear hb2)
        (try clear hk)
        (try clear hi)
        refine hK.out _ _ ⟨((HB.out.cell (zH w _ hw179_0)).trans hw179_0), ((HB.out.cell (zH w _ hw179_1)).trans hw179_1), ((HB.out.cell (zH w _ hw179_2)).trans hw179_2), ((HB.out.cell (zH w _ hw180_0)).trans hw180_0), ((HB.out.cell (zH w _ hw180_1)).trans hw180_1), ((HB.out.cell (zH w _ hw180_2)).trans hw180_2)⟩ (fun hHeld => ?_)
        clear hK K
        refine norm_ (a' := ?_) ?_ ?_
        rotate_left
        ·show Act.put _ (some 25) _ = _
         simp only [Act.put, List.setIfInBounds_toArray, List.set_cons_zero, List.set_cons_succ, i64_w, i32_w]
         rfl
        refine pure_ (i := 9) (N := some 26) (v := ?_) (a' := ?_) #[true, true, true, true, true, true, true, true, true, true] rfl rfl (any_of HT_.out (by kernel_rfl)) (fun _ _ _ h => h) (Or.inl ⟨by rfl, ?_⟩) ?_ ?_
        rotate_left
        ·intro w'
         go_simp
         with_reducible rfl
        rotate_left
        ·simp only [Act.put, List.setIfInBounds_toArray, List.set_cons_zero, List.set_cons_succ, i64_w, i32_w]
         rfl
        refine done_ (done_of HT_.out (by kernel_rfl)) ?_
        try go_wp2
        go_ret
        exact ⟨by first | rfl | (simp [errW_none, errW_some] <;> rfl) | (simp [*, errW_none, errW_some] <;> rfl), by repeat (first | (with_reducible first | exact HB.out | apply zA | apply zB | apply zC) | exact HB.out)⟩
      ·rw [if_neg c6] at H
       exact absurd H (by simp)
     ·rw [if_neg c5] at H
      exact absurd H (by simp)
    ·rw [if_neg c4] at H
     have c4b0 : decide (x5_1 < (l0.length : Int)) = false := decide_eq_false c4
     clear c4
     obtain rfl := Option.some.inj H
     go_wp2
     go_ret
     exact ⟨by first | rfl | (simp [errW_none, errW_some] <;> rfl) | (simp [*, errW_none, errW_some] <;> rfl), by repeat (first | (with_reducible first | exact HB.out | apply zA | apply zB | apply zC) | exact HB.out)⟩
 ·rw [if_neg c3] at H
  have c3b0 : ((l0.length : Int) == (l1.length : Int)) = false := beq_eq_false_iff_ne.mpr c3
  have c3b1 : ((l0.length : Int) != (l1.length : Int)) = true := bne_iff_ne.mpr c3
  have c3b2 : (l0.length == l1.length) = false := by first | simpa using c3 | (simp at c3 ⊢; omega)
  obtain rfl := Option.some.inj H
  go_enter Try.func92, Try.ntmps92
  go_wp2
  go_ret
  exact ⟨by first | rfl | (simp [errW_none, errW_some] <;> rfl) | (simp [*, errW_none, errW_some] <;> rfl), by repeat (first | (with_reducible first | exact HB.out | apply zA | apply zB | apply zC) | exact HB.out)⟩

/-! ### laws_eqCellS: function 93 -/
def laws_eqCellS.l0 : Nat → List (S74) → List (S74) → Int → Option (Bool)
 | 0, _, _, _ => none
 | k + 1, x0, x1, x5 => if x5 < (x0.length : Int) then (if 0 ≤ x5 then (if x5 < (x1.length : Int) then ((laws_eqCell.f k ((rd_T74 x0 x5).f0) ((rd_T74 x0 x5).f1) ((rd_T74 x1 x5).f0) ((rd_T74 x1 x5).f1)).bind fun t184 => (if t184 = true then (laws_eqCellS.l0 k x0 x1 (wrap64 (x5 + 1))) else (some false))) else (none)) else (none)) else (some true)
def laws_eqCellS.f (k : Nat) (l0 : List (S74)) (l1 : List (S74)) : Option (Bool) := if (l0.length : Int) = (l1.length : Int) then (laws_eqCellS.l0 k l0 l1 0) else (some false)
theorem laws_eqCellS.mono_l : ∀ k, (∀ y0 y1 y2, LeO (laws_eqCellS.l0 k y0 y1 y2) (laws_eqCellS.l0 (k + 1) y0 y1 y2))
 | 0 => fun _ _ _ r h => by simp [laws_eqCellS.l0] at h
 | k + 1 => by
  have ih0 := laws_eqCellS.mono_l k
  ·intro y0 y1 y2
   unfold laws_eqCellS.l0
   repeat' first
   | (with_reducible exact ih0 _ _ _)
   | (with_reducible exact laws_eqCell.mono _ _ _ _ _)
   | (with_reducible exact LeO.refl _)
   | (with_reducible exact LeO.none _)
   | (with_reducible refine LeO.ite ?_ ?_)
   | (with_reducible refine LeO.bind ?_ (fun _ => ?_))
   | exact ih0 _ _ _
   | exact laws_eqCell.mono _ _ _ _ _
   | exact LeO.none _
   | refine LeO.ite ?_ ?_
   | refine LeO.bind ?_ (fun _ => ?_)
theorem laws_eqCellS.mono : ∀ a0 a1 k, LeO (laws_eqCellS.f k a0 a1) (laws_eqCellS.f (k + 1) a0 a1) := by
 intro a0 a1 k
 have ih0 := laws_eqCellS.mono_l k
 unfold laws_eqCellS.f
 repeat' first
   | (with_reducible exact ih0 _ _ _)
   | (with_reducible exact laws_eqCell.mono _ _ _ _ _)
   | (with_reducible exact LeO.refl _)
   | (with_reducible exact LeO.none _)
   | (with_reducible refine LeO.ite ?_ ?_)
   | (with_reducible refine LeO.bind ?_ (fun _ => ?_))
   | exact ih0 _ _ _
   | exact laws_eqCell.mono _ _ _ _ _
   | exact LeO.none _
   | refine LeO.ite ?_ ?_
   | refine LeO.bind ?_ (fun _ => ?_)
def laws_eqCellS.T6 : Bool × List (List Nat × List Nat) := (true, [([], []), ([], []), ([0, 1], [0, 1]), ([2], [2]), ([], []), ([], []), ([4, 5], [4, 5]), ([6], [6]), ([3, 7], [3, 7]), ([8], [8])])
def laws_eqCellS.B6 : List Nat := [0, 0, 3, 7, 0, 0, 48, 112, 255, 511]
theorem laws_eqCellS.tab6 : rtab .any (opsOf Try.f93 6) = laws_eqCellS.T6 := by kernel_rfl
theorem laws_eqCellS.bits6 : waitsOk laws_eqCellS.T6.2 laws_eqCellS.B6 = true := by kernel_rfl
set_option maxHeartbeats 8000000 in
set_option maxRecDepth 100000 in
theorem laws_eqCellS.calls (k : Nat) (A0 : Option Addr) (c0 : Nat) (l0 : List (S74)) (A1 : Option Addr) (c1 : Nat) (l1 : List (S74)) (r : Bool) (w : World) (hr0 : Kd.C k74 w A0 l0.length l0) (hc0 : l0.length ≤ c0) (hr1 : Kd.C k74 w A1 l1.length l1) (hc1 : l1.length ≤ c1) (h : laws_eqCellS.f k l0 l1 = some r) :
  Calls Try.prog 93 #[.slice A0 l0.length c0, .slice A1 l1.length c1] w fun e w' => e = .returned (.bool r) ∧ Below w.heap.size w w' := by
 have hu74 := Try.underlying74
 have HR0 := zN hr0
 have HC0 := zN hc0
 clear hr0 hc0
 have HR1 := zN hr1
 have HC1 := zN hc1
 clear hr1 hc1
 have HB := zN (Below.refl w.heap.size w)
 have H : (if (l0.length : Int) = (l1.length : Int) then (laws_eqCellS.l0 k l0 l1 0) else (some false)) = some r := h
 clear h
 by_cases c3 : (l0.length : Int) = (l1.length : Int)
 ·rw [if_pos c3] at H
  have c3b0 : ((l0.length : Int) == (l1.length : Int)) = true := beq_iff_eq.mpr c3
  have c3b1 : ((l0.length : Int) != (l1.length : Int)) = false := bne_eq_false_iff_eq.mpr c3
  have c3b2 : (l0.length == l1.length) = true := by first | simpa using c3 | (simp at c3 ⊢; omega)
  clear c3
  have H' := zN H
  clear H
  go_enter Try.func93, Try.ntmps93
  go_wp2
  go_loopg [5] k (fun kq v5 w' => ∃ (x5_1 : Int), v5 = .int .i64 x5_1 ∧ Aside0 (laws_eqCellS.l0 kq l0 l1 x5_1 = some r) ∧ Aside0 (kq ≤ k) ∧ Aside0 (Below w.heap.size w w'))
  case atStart => exact ⟨(0), (by first | rfl | (simp; done) | (simp [*]; done) | (exact congrArg (Value.int .i64) (wrap_eq (by omega)))), H', ⟨Nat.le_refl _⟩, ⟨by repeat (first | (with_reducible first | exact HB.out | apply zA | apply zB | apply zC) | exact HB.out)⟩⟩
  case round =>
   clear H'
   try clear c1
   try clear p2
   try clear c3
   try clear c3b0
   try clear c3b1
   try clear c3b2
   obtain ⟨x5_1, rfl, HA, HK1, HB⟩ := hrel
   cases gk with
   | zero => exact absurd HA.out (by simp [laws_eqCellS.l0])
   | succ k1 =>
    have H := HA.out
    clear HA
    simp only [laws_eqCellS.l0] at H
    by_cases c4 : x5_1 < (l0.length : Int)
    ·rw [if_pos c4] at H
     have c4b0 : decide (x5_1 < (l0.length : Int)) = true := decide_eq_true c4
     clear c4
     by_cases c5 : 0 ≤ x5_1
     ·rw [if_pos c5] at H
      have c5b0 : decide (0 ≤ x5_1) = true := decide_eq_true c5
      clear c5
      by_cases c6 : x5_1 < (l1.length : Int)
      ·rw [if_pos c6] at H
       have c6b0 : decide (x5_1 < (l1.length : Int)) = true := decide_eq_true c6
       clear c6
       replace H := Option.bind_eq_some_iff.mp H
       obtain ⟨t184, A70, H⟩ := H
       replace H : (if t184 = true then (laws_eqCellS.l0 k1 l0 l1 (wrap64 (x5_1 + 1))) else (some false)) = some r := H
       have A7 := zN A70
       clear A70
       by_cases c8 : t184 = true
       ·subst c8
        have H1 : (laws_eqCellS.l0 k1 l0 l1 (wrap64 (x5_1 + 1))) = some r := by rw [if_pos rfl] at H; exact H
        clear H
        have H := H1
        clear H1
        have H' := zN H
        clear H
        try go_wp2
        have n0_ := zN (zC HB.out)
        clear HB
        have HB := n0_
        clear n0_
        have p182 : 0 ≤ (x5_1 : Int) := zJ (by first | (with_reducible assumption) | assumption)
        have q182 : x5_1 < (l0.length : Int) := zJ (by first | (with_reducible assumption) | assumption)
        obtain ⟨ad182, e182, hx182_0, hx182_1⟩ := at_T74 HR0.out x5_1 p182 q182
        have hw182_1 := hx182_1
        have hw182_0 := hx182_0
        cases e182
        replace hx182_0 := (HB.out.cell (zH w _ hx182_0)).trans hx182_0
        replace hx182_1 := (HB.out.cell (zH w _ hx182_1)).trans hx182_1
        replace p182 := eq_true p182
        replace q182 := eq_true q182
        have p183 : 0 ≤ (x5_1 : Int) := zJ (by first | (with_reducible assumption) | assumption)
        have q183 : x5_1 < (l1.length : Int) := zJ (by first | (with_reducible assumption) | assumption)
        obtain ⟨ad183, e183, hx183_0, hx183_1⟩ := at_T74 HR1.out x5_1 p183 q183
        have hw183_1 := hx183_1
        have hw183_0 := hx183_0
        cases e183
        replace hx183_0 := (HB.out.cell (zH w _ hx183_0)).trans hx183_0
        replace hx183_1 := (HB.out.cell (zH w _ hx183_1)).trans hx183_1
        replace p183 := eq_true p183
        replace q183 := eq_true q183
        refine start_ (n := 10) (S := fun w' => w'.cell? (ad182.add ((x5_1).toNat * 2)) = some (.int .i8 ((rd_T74 l0 x5_1).f0)) ∧ w'.cell? ⟨(ad182.add ((x5_1).toNat * 2)).block, (ad182.add ((x5_1).toNat * 2)).off + 1, none⟩ = some (.int .i8 ((rd_T74 l0 x5_1).f1)) ∧ w'.cell? (ad183.add ((x5_1).toNat * 2)) = some (.int .i8 ((rd_T74 l1 x5_1).f0)) ∧ w'.cell? ⟨(ad183.add ((x5_1).toNat * 2)).block, (ad183.add ((x5_1).toNat * 2)).off + 1, none⟩ = some (.int .i8 ((rd_T74 l1 x5_1).f1))) (ds := []) #[false, false, false, false, false, false, false, false, false, false] (by kernel_rfl) rfl rfl ⟨((HB.out.cell (zH w _ hw182_0)).trans hw182_0), ((HB.out.cell (zH w _ hw182_1)).trans hw182_1), ((HB.out.cell (zH w _ hw183_0)).trans hw183_0), ((HB.out.cell (zH w _ hw183_1)).trans hw183_1)⟩ (fun hHeld => ?_); refine with_tabW laws_eqCellS.tab6 laws_eqCellS.bits6 (fun HT_ HW_ => ?_)
        generalize wr.drew = w9 at HB hx182_0 hx182_1 hx183_0 hx183_1 hHeld ⊢
        refine pure_ (i := 0) (N := some 17) (v := ?_) (a' := ?_) #[true, false, false, false, false, false, false, false, false, false] rfl rfl (any_of HT_.out (by kernel_rfl)) (fun _ _ _ h => h) (Or.inl ⟨by rfl, ?_⟩) ?_ ?_
        rotate_left
        ·intro w'
         go_simp
         with_reducible rfl
        rotate_left
        ·simp only [Act.put, List.setIfInBounds_toArray, List.set_cons_zero, List.set_cons_succ, i64_w, i32_w]
         rfl
        refine pure_ (i := 1) (N := some 18) (v := ?_) (a' := ?_) #[true, true, false, false, false, false, false, false, false, false] rfl rfl (any_of HT_.out (by kernel_rfl)) (fun _ _ _ h => h) (Or.inl ⟨by rfl, ?_⟩) ?_ ?_
        rotate_left
        ·intro w'
         go_simp
         with_reducible rfl
        rotate_left
        ·simp only [Act.put, List.setIfInBounds_toArray, List.set_cons_zero, List.set_cons_succ, i64_w, i32_w]
         rfl
        refine pure_ (i := 2) (N := some 19) (v := ?_) (a' := ?_) #[true, true, true, false, false, false, false, false, false, false] rfl rfl (any_of HT_.out (by kernel_rfl)) (fun _ _ _ h => h) (Or.inl ⟨by rfl, ?_⟩) ?_ ?_
        rotate_left
        ·intro w'
         go_simp
         with_reducible rfl
        rotate_left
        ·simp only [Act.put, List.setIfInBounds_toArray, List.set_cons_zero, List.set_cons_succ, i64_w, i32_w]
         rfl
        refine pure_ (i := 4) (N := some 21) (v := ?_) (a' := ?_) #[true, true, true, false, true, false, false, false, false, false] rfl rfl (any_of HT_.out (by kernel_rfl)) (fun _ _ _ h => h) (Or.inl ⟨by rfl, ?_⟩) ?_ ?_
        rotate_left
        ·intro w'
         go_simp
         with_reducible rfl
        rotate_left
        ·simp only [Act.put, List.setIfInBounds_toArray, List.set_cons_zero, List.set_cons_succ, i64_w, i32_w]
         rfl
        refine pure_ (i := 5) (N := some 22) (v := ?_) (a' := ?_) #[true, true, true, false, true, true, false, false, false, false] rfl rfl (any_of HT_.out (by kernel_rfl)) (fun _ _ _ h => h) (Or.inl ⟨by rfl, ?_⟩) ?_ ?_
        rotate_left
        ·intro w'
         go_simp
         with_reducible rfl
        rotate_left
        ·simp only [Act.put, List.setIfInBounds_toArray, List.set_cons_zero, List.set_cons_succ, i64_w, i32_w]
         rfl
        refine pure_ (i := 6) (N := some 23) (v := ?_) (a' := ?_) #[true, true, true, false, true, true, true, false, false, false] rfl rfl (any_of HT_.out (by kernel_rfl)) (fun _ _ _ h => h) (Or.inl ⟨by rfl, ?_⟩) ?_ ?_
        rotate_left
        ·intro w'
         go_simp
         with_reducible rfl
        rotate_left
        ·simp only [Act.put, List.setIfInBounds_toArray, List.set_cons_zero, List.set_cons_succ, i64_w, i32_w]
         rfl
        refine take_ (i := 3) (N := some 20) (v := ?_) (a' := ?_) #[true, true, true, true, true, true, true, false, false, false] rfl rfl (take_ofW HT_.out HW_.out (by kernel_rfl)) (fun _ _ _ h => h) (Or.inl ⟨by rfl, ?_⟩) hHeld ?_ ?_
        rotate_left
        ·rintro w' ⟨s0, s1, s2, s3⟩
         go_simp
         with_reducible rfl
        rotate_left
        ·simp only [Act.put, List.setIfInBounds_toArray, List.set_cons_zero, List.set_cons_succ, i64_w, i32_w]
         rfl
        refine take_ (i := 7) (N := some 24) (v := ?_) (a' := ?_) #[true, true, true, true, true, true, true, true, false, false] rfl rfl (take_ofW HT_.out HW_.out (by kernel_rfl)) (fun _ _ _ h => h) (Or.inl ⟨by rfl, ?_⟩) hHeld ?_ ?_
        rotate_left
        ·rintro w' ⟨s0, s1, s2, s3⟩
         go_simp
         with_reducible rfl
        rotate_left
        ·simp only [Act.put, List.setIfInBounds_toArray, List.set_cons_zero, List.set_cons_succ, i64_w, i32_w]
         rfl
        refine one_ (i := 8) (N := some 25) #[true, true, true, true, true, true, true, true, true, false] rfl rfl (one_of HT_.out (by kernel_rfl)) (by decide) (fun K hK => ?_)
        refine goes_ Try.func159 (by kernel_rfl) rfl #[.agg #[.int .i8 ((rd_T74 l0 x5_1).f0), .int .i8 ((rd_T74 l0 x5_1).f1)], .agg #[.int .i8 ((rd_T74 l1 x5_1).f0), .int .i8 ((rd_T74 l1 x5_1).f1)]] (by rfl) rfl rfl (by (try simp only [List.map_toArray, List.map_cons, List.map_nil]); first | done | rfl | (simp only [List.length_drop, List.length_take]; rfl)) ?_
        with_reducible refine (laws_eqCell.calls k1 ((rd_T74 l0 x5_1).f0) ((rd_T74 l0 x5_1).f1) ((rd_T74 l1 x5_1).f0) ((rd_T74 l1 x5_1).f1) true _ A7.out).mono ?_
        rintro e w10 ⟨rfl, hb⟩
        refine ⟨_, rfl, ?_⟩
        have n0_ := zN (below_step (by repeat (first | (with_reducible first | exact HB.out | apply zA | apply zB | apply zC) | exact HB.out)) hb)
        clear HB
        have HB := n0_
        clear n0_
        (try clear hb)
        (try clear hb2)
        (try clear hk)
        (try clear hi)
        refine hK.out _ _ ⟨((HB.out.cell (zH w _ hw182_0)).trans hw182_0), ((HB.out.cell (zH w _ hw182_1)).trans hw182_1), ((HB.out.cell (zH w _ hw183_0)).trans hw183_0), ((HB.out.cell (zH w _ hw183_1)).trans hw183_1)⟩ (fun hHeld => ?_)
        clear hK K
        refine norm_ (a' := ?_) ?_ ?_
        rotate_left
        ·show Act.put _ (some 25) _ = _
         simp only [Act.put, List.setIfInBounds_toArray, List.set_cons_zero, List.set_cons_succ, i64_w, i32_w]
         rfl
        refine pure_ (i := 9) (N := some 26) (v := ?_) (a' := ?_) #[true, true, true, true, true, true, true, true, true, true] rfl rfl (any_of HT_.out (by kernel_rfl)) (fun _ _ _ h => h) (Or.inl ⟨by rfl, ?_⟩) ?_ ?_
        rotate_left
        ·intro w'
         go_simp
         with_reducible rfl
        rotate_left
        ·simp only [Act.put, List.setIfInBounds_toArray, List.set_cons_zero, List.set_cons_succ, i64_w, i32_w]
         rfl
        refine done_ (done_of HT_.out (by kernel_rfl)) ?_
        try go_wp2
        go_roundg k1
        case measure => have := HK1.out; omega
        case rel => exact ⟨(wrap64 (x5_1 + 1)), (by first | rfl | (simp; done) | (simp [*]; done) | (exact congrArg (Value.int .i64) (wrap_eq (by omega)))), H', ⟨by have := HK1.out; omega⟩, ⟨by repeat (first | (with_reducible first | exact HB.out | apply zA | apply zB | apply zC) | exact HB.out)⟩⟩
       ·replace c8 := Bool.eq_false_iff.mpr c8
        subst c8
        have H1 : (some false) = some r := by rw [if_neg (show ¬ (false = true) by decide)] at H; exact H
        clear H
        have H := H1
        clear H1
        obtain rfl := Option.some.inj H
        try go_wp2
        have n0_ := zN (zC HB.out)
        clear HB
        have HB := n0_
        clear n0_
        have p182 : 0 ≤ (x5_1 : Int) := zJ (by first | (with_reducible assumption) | assumption)
        have q182 : x5_1 < (l0.length : Int) := zJ (by first | (with_reducible assumption) | assumption)
        obtain ⟨ad182, e182, hx182_0, hx182_1⟩ := at_T74 HR0.out x5_1 p182 q182
        have hw182_1 := hx182_1
        have hw182_0 := hx182_0
        cases e182
        replace hx182_0 := (HB.out.cell (zH w _ hx182_0)).trans hx182_0
        replace hx182_1 := (HB.out.cell (zH w _ hx182_1)).trans hx182_1
        replace p182 := eq_true p182
        replace q182 := eq_true q182
        have p183 : 0 ≤ (x5_1 : Int) := zJ (by first | (with_reducible assumption) | assumption)
        have q183 : x5_1 < (l1.length : Int) := zJ (by first | (with_reducible assumption) | assumption)
        obtain ⟨ad183, e183, hx183_0, hx183_1⟩ := at_T74 HR1.out x5_1 p183 q183
        have hw183_1 := hx183_1
        have hw183_0 := hx183_0
        cases e183
        replace hx183_0 := (HB.out.cell (zH w _ hx183_0)).trans hx183_0
        replace hx183_1 := (HB.out.cell (zH w _ hx183_1)).trans hx183_1
        replace p183 := eq_true p183
        replace q183 := eq_true q183
        refine start_ (n := 10) (S := fun w' => w'.cell? (ad182.add ((x5_1).toNat * 2)) = some (.int .i8 ((rd_T74 l0 x5_1).f0)) ∧ w'.cell? ⟨(ad182.add ((x5_1).toNat * 2)).block, (ad182.add ((x5_1).toNat * 2)).off + 1, none⟩ = some (.int .i8 ((rd_T74 l0 x5_1).f1)) ∧ w'.cell? (ad183.add ((x5_1).toNat * 2)) = some (.int .i8 ((rd_T74 l1 x5_1).f0)) ∧ w'.cell? ⟨(ad183.add ((x5_1).toNat * 2)).block, (ad183.add ((x5_1).toNat * 2)).off + 1, none⟩ = some (.int .i8 ((rd_T74 l1 x5_1).f1))) (ds := []) #[false, false, false, false, false, false, false, false, false, false] (by kernel_rfl) rfl rfl ⟨((HB.out.cell (zH w _ hw182_0)).trans hw182_0), ((HB.out.cell (zH w _ hw182_1)).trans hw182_1), ((HB.out.cell (zH w _ hw183_0)).trans hw183_0), ((HB.out.cell (zH w _ hw183_1)).trans hw183_1)⟩ (fun hHeld => ?_); refine with_tabW laws_eqCellS.tab6 laws_eqCellS.bits6 (fun HT_ HW_ => ?_)
        generalize wr.drew = w11 at HB hx182_0 hx182_1 hx183_0 hx183_1 hHeld ⊢
        refine pure_ (i := 0) (N := some 17) (v := ?_) (a' := ?_) #[true, false, false, false, false, false, false, false, false, false] rfl rfl (any_of HT_.out (by kernel_rfl)) (fun _ _ _ h => h) (Or.inl ⟨by rfl, ?_⟩) ?_ ?_
        rotate_left
        ·intro w'
         go_simp
         with_reducible rfl
        rotate_left
        ·simp only [Act.put, List.setIfInBounds_toArray, List.set_cons_zero, List.set_cons_succ, i64_w, i32_w]
         rfl
        refine pure_ (i := 1) (N := some 18) (v := ?_) (a' := ?_) #[true, true, false, false, false, false, false, false, false, false] rfl rfl (any_of HT_.out (by kernel_rfl)) (fun _ _ _ h => h) (Or.inl ⟨by rfl, ?_⟩) ?_ ?_
        rotate_left
        ·intro w'
         go_simp
         with_reducible rfl
        rotate_left
        ·simp only [Act.put, List.setIfInBounds_toArray, List.set_cons_zero, List.set_cons_succ, i64_w, i32_w]
         rfl
        refine pure_ (i := 2) (N := some 19) (v := ?_) (a' := ?_) #[true, true, true, false, false, false, false, false, false, false] rfl rfl (any_of HT_.out (by kernel_rfl)) (fun _ _ _ h => h) (Or.inl ⟨by rfl, ?_⟩) ?_ ?_
        rotate_left
        ·intro w'
         go_simp
         with_reducible rfl
        rotate_left
        ·simp only [Act.put, List.setIfInBounds_toArray, List.set_cons_zero, List.set_cons_succ, i64_w, i32_w]
         rfl
        refine pure_ (i := 4) (N := some 21) (v := ?_) (a' := ?_) #[true, true, true, false, true, false, false, false, false, false] rfl rfl (any_of HT_.out (by kernel_rfl)) (fun _ _ _ h => h) (Or.inl ⟨by rfl, ?_⟩) ?_ ?_
        rotate_left
        ·intro w'
         go_simp
         with_reducible rfl
        rotate_left
        ·simp only [Act.put, List.setIfInBounds_toArray, List.set_cons_zero, List.set_cons_succ, i64_w, i32_w]
         rfl
        refine pure_ (i := 5) (N := some 22) (v := ?_) (a' := ?_) #[true, true, true, false, true, true, false, false, false, false] rfl rfl (any_of HT_.out (by kernel_rfl)) (fun _ _ _ h => h) (Or.inl ⟨by rfl, ?_⟩) ?_ ?_
        rotate_left
        ·intro w'
         go_simp
         with_reducible rfl
        rotate_left
        ·simp only [Act.put, List.setIfInBounds_toArray, List.set_cons_zero, List.set_cons_succ, i64_w, i32_w]
         rfl
        refine pure_ (i := 6) (N := some 23) (v := ?_) (a' := ?_) #[true, true, true, false, true, true, true, false, false, false] rfl rfl (any_of HT_.out (by kernel_rfl)) (fun _ _ _ h => h) (Or.inl ⟨by rfl, ?_⟩) ?_ ?_
        rotate_left
        ·intro w'
         go_simp
         with_reducible rfl
        rotate_left
        ·simp only [Act.put, List.setIfInBounds_toArray, List.set_cons_zero, List.set_cons_succ, i64_w, i32_w]
         rfl
        refine take_ (i := 3) (N := some 20) (v := ?_) (a' := ?_) #[true, true, true, true, true, true, true, false, false, false] rfl rfl (take_ofW HT_.out HW_.out (by kernel_rfl)) (fun _ _ _ h => h) (Or.inl ⟨by rfl, ?_⟩) hHeld ?_ ?_
        rotate_left
        ·rintro w' ⟨s0, s1, s2, s3⟩
         go_simp
         with_reducible rfl
        rotate_left
        ·simp only [Act.put, List.setIfInBounds_toArray, List.set_cons_zero, List.set_cons_succ, i64_w, i32_w]
         rfl
        refine take_ (i := 7) (N := some 24) (v := ?_) (a' := ?_) #[true, true, true, true, true, true, true, true, false, false] rfl rfl (take_ofW HT_.out HW_.out (by kernel_rfl)) (fun _ _ _ h => h) (Or.inl ⟨by rfl, ?_⟩) hHeld ?_ ?_
        rotate_left
        ·rintro w' ⟨s0, s1, s2, s3⟩
         go_simp
         with_reducible rfl
        rotate_left
        ·simp only [Act.put, List.setIfInBounds_toArray, List.set_cons_zero, List.set_cons_succ, i64_w, i32_w]
         rfl
        refine one_ (i := 8) (N := some 25) #[true, true, true, true, true, true, true, true, true, false] rfl rfl (one_of HT_.out (by kernel_rfl)) (by decide) (fun K hK => ?_)
        refine goes_ Try.func159 (by kernel_rfl) rfl #[.agg #[.int .i8 ((rd_T74 l0 x5_1).f0), .int .i8 ((rd_T74 l0 x5_1).f1)], .agg #[.int .i8 ((rd_T74 l1 x5_1).f0), .int .i8 ((rd_T74 l1 x5_1).f1)]] (by rfl) rfl rfl (by (try simp only [List.map_toArray, List.map_cons, List.map_nil]); first | done | rfl | (simp only [List.length_drop, List.length_take]; rfl)) ?_
        with_reducible refine (laws_eqCell.calls k1 ((rd_T74 l0 x5_1).f0) ((rd_T74 l0 x5_1).f1) ((rd_T74 l1 x5_1).f0) ((rd_T74 l1 x5_1).f1) false _ A7.out).mono ?_
        rintro e w12 ⟨rfl, hb⟩
        refine ⟨_, rfl, ?_⟩
        have n0_ := zN (below_step (by repeat (first | (with_reducible first | exact HB.out | apply zA | apply zB | apply zC) | exact HB.out)) hb)
        clear HB
        have HB := n0_
        clear n0_
        (try clear hb)
        (try clear hb2)
        (try clear hk)
        (try clear hi)
        refine hK.out _ _ ⟨((HB.out.cell (zH w _ hw182_0)).trans hw182_0), ((HB.out.cell (zH w _ hw182_1)).trans hw182_1), ((HB.out.cell (zH w _ hw183_0)).trans hw183_0), ((HB.out.cell (zH w _ hw183_1)).trans hw183_1)⟩ (fun hHeld => ?_)
        clear hK K
        refine norm_ (a' := ?_) ?_ ?_
        rotate_left
        ·show Act.put _ (some 25) _ = _
         simp only [Act.put, List.setIfInBounds_toArray, List.set_cons_zero, List.set_cons_succ, i64_w, i32_w]
         rfl
        refine pure_ (i := 9) (N := some 26) (v := ?_) (a' := ?_) #[true, true, true, true, true, true, true, true, true, true] rfl rfl (any_of HT_.out (by kernel_rfl)) (fun _ _ _ h => h) (Or.inl ⟨by rfl, ?_⟩) ?_ ?_
        rotate_left
        ·intro w'
         go_simp
         with_reducible rfl
        rotate_left
        ·simp only [Act.put, List.setIfInBounds_toArray, List.set_cons_zero, List.set_cons_succ, i64_w, i32_w]
         rfl
        refine done_ (done_of HT_.out (by kernel_rfl)) ?_
        try go_wp2
        go_ret
        exact ⟨by first | rfl | (simp [errW_none, errW_some] <;> rfl) | (simp [*, errW_none, errW_some] <;> rfl), by repeat (first | (with_reducible first | exact HB.out | apply zA | apply zB | apply zC) | exact HB.out)⟩
      ·rw [if_neg c6] at H
       exact absurd H (by simp)
     ·rw [if_neg c5] at H
      exact absurd H (by simp)
    ·rw [if_neg c4] at H
     have c4b0 : decide (x5_1 < (l0.length : Int)) = false := decide_eq_false c4
     clear c4
     obtain rfl := Option.some.inj H
     go_wp2
     go_ret
     exact ⟨by first | rfl | (simp [errW_none, errW_some] <;> rfl) | (simp [*, errW_none, errW_some] <;> rfl), by repeat (first | (with_reducible first | exact HB.out | apply zA | apply zB | apply zC) | exact HB.out)⟩
 ·rw [if_neg c3] at H
  have c3b0 : ((l0.length : Int) == (l1.length : Int)) = false := beq_eq_false_iff_ne.mpr c3
  have c3b1 : ((l0.length : Int) != (l1.length : Int)) = true := bne_iff_ne.mpr c3
  have c3b2 : (l0.length == l1.length) = false := by first | simpa using c3 | (simp at c3 ⊢; omega)
  obtain rfl := Option.some.inj H
  go_enter Try.func93, Try.ntmps93
  go_wp2
  go_ret
  exact ⟨by first | rfl | (simp [errW_none, errW_some] <;> rfl) | (simp [*, errW_none, errW_some] <;> rfl), by repeat (first | (with_reducible first | exact HB.out | apply zA | apply zB | apply zC) | exact HB.out)⟩

/-! ### laws_eqMachine: function 27 -/
def laws_eqMachine.f (k : Nat) (a0_0 : Int) (a0_1 : Int) (l0_2 : List (S91)) (l0_3 : List (S116)) (l0_4 : List (S74)) (a1_0 : Int) (a1_1 : Int) (l1_2 : List (S91)) (l1_3 : List (S116)) (l1_4 : List (S74)) : Option (Bool) := (laws_eqBoard.f k a0_0 a0_1 l0_2 a1_0 a1_1 l1_2).bind fun t187 => (if t187 = true then ((laws_eqPortS.f k l0_3 l1_3).bind fun t188 => (if t188 = true then ((laws_eqCellS.f k l0_4 l1_4).bind fun t189 => (if t189 = true then (some true) else (some false))) else (some false))) else (some false))
theorem laws_eqMachine.mono : ∀ a0 a1 a2 a3 a4 a5 a6 a7 a8 a9 k, LeO (laws_eqMachine.f k a0 a1 a2 a3 a4 a5 a6 a7 a8 a9) (laws_eqMachine.f (k + 1) a0 a1 a2 a3 a4 a5 a6 a7 a8 a9) := by
 intro a0 a1 a2 a3 a4 a5 a6 a7 a8 a9 k
 unfold laws_eqMachine.f
 repeat' first
   | (with_reducible exact laws_eqBoard.mono _ _ _ _ _ _ _)
   | (with_reducible exact laws_eqCellS.mono _ _ _)
   | (with_reducible exact laws_eqPortS.mono _ _ _)
   | (with_reducible exact LeO.refl _)
   | (with_reducible exact LeO.none _)
   | (with_reducible refine LeO.ite ?_ ?_)
   | (with_reducible refine LeO.bind ?_ (fun _ => ?_))
   | exact laws_eqBoard.mono _ _ _ _ _ _ _
   | exact laws_eqCellS.mono _ _ _
   | exact laws_eqPortS.mono _ _ _
   | exact LeO.none _
   | refine LeO.ite ?_ ?_
   | refine LeO.bind ?_ (fun _ => ?_)
set_option maxHeartbeats 8000000 in
set_option maxRecDepth 100000 in
theorem laws_eqMachine.calls (k : Nat) (a0_0 : Int) (a0_1 : Int) (A0_2 : Option Addr) (c0_2 : Nat) (l0_2 : List (S91)) (A0_3 : Option Addr) (c0_3 : Nat) (l0_3 : List (S116)) (A0_4 : Option Addr) (c0_4 : Nat) (l0_4 : List (S74)) (a1_0 : Int) (a1_1 : Int) (A1_2 : Option Addr) (c1_2 : Nat) (l1_2 : List (S91)) (A1_3 : Option Addr) (c1_3 : Nat) (l1_3 : List (S116)) (A1_4 : Option Addr) (c1_4 : Nat) (l1_4 : List (S74)) (r : Bool) (w : World) (hr0_2 : Kd.C k91 w A0_2 l0_2.length l0_2) (hc0_2 : l0_2.length ≤ c0_2) (hr0_3 : Kd.C k116 w A0_3 l0_3.length l0_3) (hc0_3 : l0_3.length ≤ c0_3) (hr0_4 : Kd.C k74 w A0_4 l0_4.length l0_4) (hc0_4 : l0_4.length ≤ c0_4) (hr1_2 : Kd.C k91 w A1_2 l1_2.length l1_2) (hc1_2 : l1_2.length ≤ c1_2) (hr1_3 : Kd.C k116 w A1_3 l1_3.length l1_3) (hc1_3 : l1_3.length ≤ c1_3) (hr1_4 : Kd.C k74 w A1_4 l1_4.length l1_4) (hc1_4 : l1_4.length ≤ c1_4) (h : laws_eqMachine.f k a0_0 a0_1 l0_2 l0_3 l0_4 a1_0 a1_1 l1_2 l1_3 l1_4 = some r) :
  Calls Try.prog 27 #[.agg #[.int .i8 a0_0, .int .i8 a0_1, .slice A0_2 l0_2.length c0_2, .slice A0_3 l0_3.length c0_3, .slice A0_4 l0_4.length c0_4], .agg #[.int .i8 a1_0, .int .i8 a1_1, .slice A1_2 l1_2.length c1_2, .slice A1_3 l1_3.length c1_3, .slice A1_4 l1_4.length c1_4]] w fun e w' => e = .returned (.bool r) ∧ Below w.heap.size w w' := by
 have hu41 := Try.underlying41
 have hu37 := Try.underlying37
 have HR0_2 := zN hr0_2
 have HC0_2 := zN hc0_2
 clear hr0_2 hc0_2
 have HR0_3 := zN hr0_3
 have HC0_3 := zN hc0_3
 clear hr0_3 hc0_3
 have HR0_4 := zN hr0_4
 have HC0_4 := zN hc0_4
 clear hr0_4 hc0_4
 have HR1_2 := zN hr1_2
 have HC1_2 := zN hc1_2
 clear hr1_2 hc1_2
 have HR1_3 := zN hr1_3
 have HC1_3 := zN hc1_3
 clear hr1_3 hc1_3
 have HR1_4 := zN hr1_4
 have HC1_4 := zN hc1_4
 clear hr1_4 hc1_4
 have HB := zN (Below.refl w.heap.size w)
 have H : ((laws_eqBoard.f k a0_0 a0_1 l0_2 a1_0 a1_1 l1_2).bind fun t187 => (if t187 = true then ((laws_eqPortS.f k l0_3 l1_3).bind fun t188 => (if t188 = true then ((laws_eqCellS.f k l0_4 l1_4).bind fun t189 => (if t189 = true then (some true) else (some false))) else (some false))) else (some false))) = some r := h
 clear h
 replace H := Option.bind_eq_some_iff.mp H
 obtain ⟨t187, A30, H⟩ := H
 replace H : (if t187 = true then ((laws_eqPortS.f k l0_3 l1_3).bind fun t188 => (if t188 = true then ((laws_eqCellS.f k l0_4 l1_4).bind fun t189 => (if t189 = true then (some true) else (some false))) else (some false))) else (some false)) = some r := H
 have A3 := zN A30
 clear A30
 by_cases c4 : t187 = true
 ·subst c4
  have H1 : ((laws_eqPortS.f k l0_3 l1_3).bind fun t188 => (if t188 = true then ((laws_eqCellS.f k l0_4 l1_4).bind fun t189 => (if t189 = true then (some true) else (some false))) else (some false))) = some r := by rw [if_pos rfl] at H; exact H
  clear H
  have H := H1
  clear H1
  replace H := Option.bind_eq_some_iff.mp H
  obtain ⟨t188, A50, H⟩ := H
  replace H : (if t188 = true then ((laws_eqCellS.f k l0_4 l1_4).bind fun t189 => (if t189 = true then (some true) else (some false))) else (some false)) = some r := H
  have A5 := zN A50
  clear A50
  by_cases c6 : t188 = true
  ·subst c6
   have H1 : ((laws_eqCellS.f k l0_4 l1_4).bind fun t189 => (if t189 = true then (some true) else (some false))) = some r := by rw [if_pos rfl] at H; exact H
   clear H
   have H := H1
   clear H1
   replace H := Option.bind_eq_some_iff.mp H
   obtain ⟨t189, A70, H⟩ := H
   replace H : (if t189 = true then (some true) else (some false)) = some r := H
   have A7 := zN A70
   clear A70
   by_cases c8 : t189 = true
   ·subst c8
    have H1 : (some true) = some r := by rw [if_pos rfl] at H; exact H
    clear H
    have H := H1
    clear H1
    obtain rfl := Option.some.inj H
    go_enter Try.func27, Try.ntmps27
    go_wp2_with (first | ((with_reducible refine gate_dst (N := 2) rfl ?_); refine box_event ?hg (N := 2) ?hd (cs := #[.int .i8 a0_0, .int .i8 a0_1, .slice A0_2 l0_2.length c0_2, .slice A0_3 l0_3.length c0_3, .slice A0_4 l0_4.length c0_4]) (t := 41) ?hr ?_; (case hd => rfl); (case hg => rfl); (case hr => first | (go_simp; done) | (go_simp; rfl)); intro gb185 hg w9 hbox hb; have n0_ := zN (below_step (by repeat (first | (with_reducible first | exact HB.out | apply zA | apply zB | apply zC) | exact HB.out)) hb); have n1_ := zN (hbox); have n2_ := zN ((by rw [hg]; exact (below_size (by repeat (first | (with_reducible first | exact HB.out | apply zA | apply zB | apply zC) | exact HB.out))) : w.heap.size ≤ gb185)); have n3_ := zN ((by rw [hg]; exact (below_size (by repeat (first | (with_reducible first | exact HB.out | apply zA | apply zB | apply zC) | exact HB.out))) : w.heap.size ≤ gb185)); clear HB; have HB := n0_; have BK185 := n1_; have GW185 := n2_; have GE185 := n3_; clear n0_ n1_ n2_ n3_; clear hb hbox hg) | ((with_reducible refine gate_dst (N := 3) rfl ?_); refine box_event ?hg (N := 3) ?hd (cs := #[.int .i8 a1_0, .int .i8 a1_1, .slice A1_2 l1_2.length c1_2, .slice A1_3 l1_3.length c1_3, .slice A1_4 l1_4.length c1_4]) (t := 41) ?hr ?_; (case hd => rfl); (case hg => rfl); (case hr => first | (go_simp; done) | (go_simp; rfl)); intro gb186 hg w10 hbox hb; have n0_ := zN (blk_below (g := gb185) (o := .cells #[.int .i8 a0_0, .int .i8 a0_1, .slice A0_2 l0_2.length c0_2, .slice A0_3 l0_3.length c0_3, .slice A0_4 l0_4.length c0_4] 41 (0, 0)) (by (with_reducible repeat (first | refine zE ?_ _ | refine zF ?_ | refine zG ?_ _)); exact BK185.out) hb); have n1_ := zN (below_step (by repeat (first | (with_reducible first | exact HB.out | apply zA | apply zB | apply zC | refine zD ?_ GE185.out) | exact HB.out)) hb); have n2_ := zN (hbox); have n3_ := zN ((by rw [hg]; exact (below_size (by repeat (first | (with_reducible first | exact HB.out | apply zA | apply zB | apply zC | refine zD ?_ GE185.out) | exact HB.out))) : w.heap.size ≤ gb186)); have n4_ := zN ((by rw [hg]; exact (below_size (by repeat (first | (with_reducible first | exact HB.out | apply zA | apply zB | apply zC | refine zD ?_ GE185.out) | exact HB.out))) : w.heap.size ≤ gb186)); have n5_ := zN ((by rw [hg]; exact Nat.ne_of_lt (blk_lt (g := gb185) (o := .cells #[.int .i8 a0_0, .int .i8 a0_1, .slice A0_2 l0_2.length c0_2, .slice A0_3 l0_3.length c0_3, .slice A0_4 l0_4.length c0_4] 41 (0, 0)) (by (with_reducible repeat (first | refine zE ?_ _ | refine zF ?_ | refine zG ?_ _)); exact BK185.out)) : gb185 ≠ gb186)); have n6_ := zN ((by rw [hg]; exact Nat.ne_of_gt (blk_lt (g := gb185) (o := .cells #[.int .i8 a0_0, .int .i8 a0_1, .slice A0_2 l0_2.length c0_2, .slice A0_3 l0_3.length c0_3, .slice A0_4 l0_4.length c0_4] 41 (0, 0)) (by (with_reducible repeat (first | refine zE ?_ _ | refine zF ?_ | refine zG ?_ _)); exact BK185.out)) : gb186 ≠ gb185)); clear BK185; clear HB; have BK185 := n0_; have HB := n1_; have BK186 := n2_; have GW186 := n3_; have GE186 := n4_; have NB185_186 := n5_; have NB186_185 := n6_; clear n0_ n1_ n2_ n3_ n4_ n5_ n6_; clear hb hbox hg; have hnb11 := NB185_186.out; have hnc11 := NB186_185.out; have hcz12_0 : w10.cell? ⟨gb185, 0, none⟩ = some (.int .i8 a0_0) := (blk_cell BK185.out 0).trans rfl; have hcz12_1 : w10.cell? ⟨gb185, 1, none⟩ = some (.int .i8 a0_1) := (blk_cell BK185.out 1).trans rfl; have hcz12_2 : w10.cell? ⟨gb185, 2, none⟩ = some (.slice A0_2 l0_2.length c0_2) := (blk_cell BK185.out 2).trans rfl; have hcz12_3 : w10.cell? ⟨gb185, 3, none⟩ = some (.slice A0_3 l0_3.length c0_3) := (blk_cell BK185.out 3).trans rfl; have hcz12_4 : w10.cell? ⟨gb185, 4, none⟩ = some (.slice A0_4 l0_4.length c0_4) := (blk_cell BK185.out 4).trans rfl; have hfz12_0 := blk_frozen BK185.out 0; have hfz12_1 := blk_frozen BK185.out 1; have hfz12_2 := blk_frozen BK185.out 2; have hfz12_3 := blk_frozen BK185.out 3; have hfz12_4 := blk_frozen BK185.out 4; have hcz13_0 : w10.cell? ⟨gb186, 0, none⟩ = some (.int .i8 a1_0) := (blk_cell BK186.out 0).trans rfl; have hcz13_1 : w10.cell? ⟨gb186, 1, none⟩ = some (.int .i8 a1_1) := (blk_cell BK186.out 1).trans rfl; have hcz13_2 : w10.cell? ⟨gb186, 2, none⟩ = some (.slice A1_2 l1_2.length c1_2) := (blk_cell BK186.out 2).trans rfl; have hcz13_3 : w10.cell? ⟨gb186, 3, none⟩ = some (.slice A1_3 l1_3.length c1_3) := (blk_cell BK186.out 3).trans rfl; have hcz13_4 : w10.cell? ⟨gb186, 4, none⟩ = some (.slice A1_4 l1_4.length c1_4) := (blk_cell BK186.out 4).trans rfl; have hfz13_0 := blk_frozen BK186.out 0; have hfz13_1 := blk_frozen BK186.out 1; have hfz13_2 := blk_frozen BK186.out 2; have hfz13_3 := blk_frozen BK186.out 3; have hfz13_4 := blk_frozen BK186.out 4) | ((with_reducible refine gate_callee (f := 44) rfl ?_); refine goesL_ (some 9) rfl rfl Try.func44 (by kernel_rfl) rfl #[.agg #[.int .i8 a0_0, .int .i8 a0_1, .slice A0_2 l0_2.length c0_2], .agg #[.int .i8 a1_0, .int .i8 a1_1, .slice A1_2 l1_2.length c1_2]] rfl (by (try simp only [List.map_toArray, List.map_cons, List.map_nil]); first | done | rfl | (simp only [List.length_drop, List.length_take]; rfl)) ?_; (with_reducible refine (laws_eqBoard.calls k a0_0 a0_1 _ _ l0_2 a1_0 a1_1 _ _ l1_2 true _ ?side1 ?side2 ?side3 ?side4 A3.out).mono ?_); (case side1 => repeat (first | exact (Kd.C_below HR0_2.out HB.out) | (with_reducible refine Kd.C_alloc ?_ _) | (with_reducible refine Kd.C_drewN ?_ _) | (with_reducible refine Kd.C_drew ?_))); (case side2 => exact HC0_2.out); (case side3 => repeat (first | exact (Kd.C_below HR1_2.out HB.out) | (with_reducible refine Kd.C_alloc ?_ _) | (with_reducible refine Kd.C_drewN ?_ _) | (with_reducible refine Kd.C_drew ?_))); (case side4 => exact HC1_2.out); rintro e w14 ⟨rfl, hb⟩; refine ⟨_, rfl, ?_⟩; have n0_ := zN (blk_below (g := gb185) (o := .cells #[.int .i8 a0_0, .int .i8 a0_1, .slice A0_2 l0_2.length c0_2, .slice A0_3 l0_3.length c0_3, .slice A0_4 l0_4.length c0_4] 41 (0, 0)) (by (with_reducible repeat (first | refine zE ?_ _ | refine zF ?_ | refine zG ?_ _)); exact BK185.out) hb); have n1_ := zN (blk_below (g := gb186) (o := .cells #[.int .i8 a1_0, .int .i8 a1_1, .slice A1_2 l1_2.length c1_2, .slice A1_3 l1_3.length c1_3, .slice A1_4 l1_4.length c1_4] 41 (0, 0)) (by (with_reducible repeat (first | refine zE ?_ _ | refine zF ?_ | refine zG ?_ _)); exact BK186.out) hb); have n2_ := zN (below_step (by repeat (first | (with_reducible first | exact HB.out | apply zA | apply zB | apply zC | refine zD ?_ GE185.out | refine zD ?_ GE186.out) | exact HB.out)) hb); clear BK185; clear BK186; clear HB; have BK185 := n0_; have BK186 := n1_; have HB := n2_; clear n0_ n1_ n2_; (try clear hb); (try clear hb2); (try clear hk); (try clear hi); have hcz15_0 : w14.cell? ⟨gb185, 0, none⟩ = some (.int .i8 a0_0) := (blk_cell BK185.out 0).trans rfl; have hcz15_1 : w14.cell? ⟨gb185, 1, none⟩ = some (.int .i8 a0_1) := (blk_cell BK185.out 1).trans rfl; have hcz15_2 : w14.cell? ⟨gb185, 2, none⟩ = some (.slice A0_2 l0_2.length c0_2) := (blk_cell BK185.out 2).trans rfl; have hcz15_3 : w14.cell? ⟨gb185, 3, none⟩ = some (.slice A0_3 l0_3.length c0_3) := (blk_cell BK185.out 3).trans rfl; have hcz15_4 : w14.cell? ⟨gb185, 4, none⟩ = some (.slice A0_4 l0_4.length c0_4) := (blk_cell BK185.out 4).trans rfl; have hfz15_0 := blk_frozen BK185.out 0; have hfz15_1 := blk_frozen BK185.out 1; have hfz15_2 := blk_frozen BK185.out 2; have hfz15_3 := blk_frozen BK185.out 3; have hfz15_4 := blk_frozen BK185.out 4; have hcz16_0 : w14.cell? ⟨gb186, 0, none⟩ = some (.int .i8 a1_0) := (blk_cell BK186.out 0).trans rfl; have hcz16_1 : w14.cell? ⟨gb186, 1, none⟩ = some (.int .i8 a1_1) := (blk_cell BK186.out 1).trans rfl; have hcz16_2 : w14.cell? ⟨gb186, 2, none⟩ = some (.slice A1_2 l1_2.length c1_2) := (blk_cell BK186.out 2).trans rfl; have hcz16_3 : w14.cell? ⟨gb186, 3, none⟩ = some (.slice A1_3 l1_3.length c1_3) := (blk_cell BK186.out 3).trans rfl; have hcz16_4 : w14.cell? ⟨gb186, 4, none⟩ = some (.slice A1_4 l1_4.length c1_4) := (blk_cell BK186.out 4).trans rfl; have hfz16_0 := blk_frozen BK186.out 0; have hfz16_1 := blk_frozen BK186.out 1; have hfz16_2 := blk_frozen BK186.out 2; have hfz16_3 := blk_frozen BK186.out 3; have hfz16_4 := blk_frozen BK186.out 4) | ((with_reducible refine gate_callee (f := 92) rfl ?_); refine goesL_ (some 15) rfl rfl Try.func92 (by kernel_rfl) rfl #[.slice A0_3 l0_3.length c0_3, .slice A1_3 l1_3.length c1_3] rfl (by (try simp only [List.map_toArray, List.map_cons, List.map_nil]); first | done | rfl | (simp only [List.length_drop, List.length_take]; rfl)) ?_; (with_reducible refine (laws_eqPortS.calls k _ _ l0_3 _ _ l1_3 true _ ?side1 ?side2 ?side3 ?side4 A5.out).mono ?_); (case side1 => repeat (first | exact (Kd.C_below HR0_3.out HB.out) | (with_reducible refine Kd.C_alloc ?_ _) | (with_reducible refine Kd.C_drewN ?_ _) | (with_reducible refine Kd.C_drew ?_))); (case side2 => exact HC0_3.out); (case side3 => repeat (first | exact (Kd.C_below HR1_3.out HB.out) | (with_reducible refine Kd.C_alloc ?_ _) | (with_reducible refine Kd.C_drewN ?_ _) | (with_reducible refine Kd.C_drew ?_))); (case side4 => exact HC1_3.out); rintro e w17 ⟨rfl, hb⟩; refine ⟨_, rfl, ?_⟩; have n0_ := zN (blk_below (g := gb185) (o := .cells #[.int .i8 a0_0, .int .i8 a0_1, .slice A0_2 l0_2.length c0_2, .slice A0_3 l0_3.length c0_3, .slice A0_4 l0_4.length c0_4] 41 (0, 0)) (by (with_reducible repeat (first | refine zE ?_ _ | refine zF ?_ | refine zG ?_ _)); exact BK185.out) hb); have n1_ := zN (blk_below (g := gb186) (o := .cells #[.int .i8 a1_0, .int .i8 a1_1, .slice A1_2 l1_2.length c1_2, .slice A1_3 l1_3.length c1_3, .slice A1_4 l1_4.length c1_4] 41 (0, 0)) (by (with_reducible repeat (first | refine zE ?_ _ | refine zF ?_ | refine zG ?_ _)); exact BK186.out) hb); have n2_ := zN (below_step (by repeat (first | (with_reducible first | exact HB.out | apply zA | apply zB | apply zC | refine zD ?_ GE185.out | refine zD ?_ GE186.out) | exact HB.out)) hb); clear BK185; clear BK186; clear HB; have BK185 := n0_; have BK186 := n1_; have HB := n2_; clear n0_ n1_ n2_; (try clear hb); (try clear hb2); (try clear hk); (try clear hi); have hcz18_0 : w17.cell? ⟨gb185, 0, none⟩ = some (.int .i8 a0_0) := (blk_cell BK185.out 0).trans rfl; have hcz18_1 : w17.cell? ⟨gb185, 1, none⟩ = some (.int .i8 a0_1) := (blk_cell BK185.out 1).trans rfl; have hcz18_2 : w17.cell? ⟨gb185, 2, none⟩ = some (.slice A0_2 l0_2.length c0_2) := (blk_cell BK185.out 2).trans rfl; have hcz18_3 : w17.cell? ⟨gb185, 3, none⟩ = some (.slice A0_3 l0_3.length c0_3) := (blk_cell BK185.out 3).trans rfl; have hcz18_4 : w17.cell? ⟨gb185, 4, none⟩ = some (.slice A0_4 l0_4.length c0_4) := (blk_cell BK185.out 4).trans rfl; have hfz18_0 := blk_frozen BK185.out 0; have hfz18_1 := blk_frozen BK185.out 1; have hfz18_2 := blk_frozen BK185.out 2; have hfz18_3 := blk_frozen BK185.out 3; have hfz18_4 := blk_frozen BK185.out 4; have hcz19_0 : w17.cell? ⟨gb186, 0, none⟩ = some (.int .i8 a1_0) := (blk_cell BK186.out 0).trans rfl; have hcz19_1 : w17.cell? ⟨gb186, 1, none⟩ = some (.int .i8 a1_1) := (blk_cell BK186.out 1).trans rfl; have hcz19_2 : w17.cell? ⟨gb186, 2, none⟩ = some (.slice A1_2 l1_2.length c1_2) := (blk_cell BK186.out 2).trans rfl; have hcz19_3 : w17.cell? ⟨gb186, 3, none⟩ = some (.slice A1_3 l1_3.length c1_3) := (blk_cell BK186.out 3).trans rfl; have hcz19_4 : w17.cell? ⟨gb186, 4, none⟩ = some (.slice A1_4 l1_4.length c1_4) := (blk_cell BK186.out 4).trans rfl; have hfz19_0 := blk_frozen BK186.out 0; have hfz19_1 := blk_frozen BK186.out 1; have hfz19_2 := blk_frozen BK186.out 2; have hfz19_3 := blk_frozen BK186.out 3; have hfz19_4 := blk_frozen BK186.out 4) | ((with_reducible refine gate_callee (f := 93) rfl ?_); refine goesL_ (some 21) rfl rfl Try.func93 (by kernel_rfl) rfl #[.slice A0_4 l0_4.length c0_4, .slice A1_4 l1_4.length c1_4] rfl (by (try simp only [List.map_toArray, List.map_cons, List.map_nil]); first | done | rfl | (simp only [List.length_drop, List.length_take]; rfl)) ?_; (with_reducible refine (laws_eqCellS.calls k _ _ l0_4 _ _ l1_4 true _ ?side1 ?side2 ?side3 ?side4 A7.out).mono ?_); (case side1 => repeat (first | exact (Kd.C_below HR0_4.out HB.out) | (with_reducible refine Kd.C_alloc ?_ _) | (with_reducible refine Kd.C_drewN ?_ _) | (with_reducible refine Kd.C_drew ?_))); (case side2 => exact HC0_4.out); (case side3 => repeat (first | exact (Kd.C_below HR1_4.out HB.out) | (with_reducible refine Kd.C_alloc ?_ _) | (with_reducible refine Kd.C_drewN ?_ _) | (with_reducible refine Kd.C_drew ?_))); (case side4 => exact HC1_4.out); rintro e w20 ⟨rfl, hb⟩; refine ⟨_, rfl, ?_⟩; have n0_ := zN (blk_below (g := gb185) (o := .cells #[.int .i8 a0_0, .int .i8 a0_1, .slice A0_2 l0_2.length c0_2, .slice A0_3 l0_3.length c0_3, .slice A0_4 l0_4.length c0_4] 41 (0, 0)) (by (with_reducible repeat (first | refine zE ?_ _ | refine zF ?_ | refine zG ?_ _)); exact BK185.out) hb); have n1_ := zN (blk_below (g := gb186) (o := .cells #[.int .i8 a1_0, .int .i8 a1_1, .slice A1_2 l1_2.length c1_2, .slice A1_3 l1_3.length c1_3, .slice A1_4 l1_4.length c1_4] 41 (0, 0)) (by (with_reducible repeat (first | refine zE ?_ _ | refine zF ?_ | refine zG ?_ _)); exact BK186.out) hb); have n2_ := zN (below_step (by repeat (first | (with_reducible first | exact HB.out | apply zA | apply zB | apply zC | refine zD ?_ GE185.out | refine zD ?_ GE186.out) | exact HB.out)) hb); clear BK185; clear BK186; clear HB; have BK185 := n0_; have BK186 := n1_; have HB := n2_; clear n0_ n1_ n2_; (try clear hb); (try clear hb2); (try clear hk); (try clear hi)))
    go_ret
    exact ⟨by first | rfl | (simp [errW_none, errW_some] <;> rfl) | (simp [*, errW_none, errW_some] <;> rfl), by repeat (first | (with_reducible first | exact HB.out | apply zA | apply zB | apply zC | refine zD ?_ GE185.out | refine zD ?_ GE186.out) | exact HB.out)⟩
   ·replace c8 := Bool.eq_false_iff.mpr c8
    subst c8
    have H1 : (some false) = some r := by rw [if_neg (show ¬ (false = true) by decide)] at H; exact H
    clear H
    have H := H1
    clear H1
    obtain rfl := Option.some.inj H
    go_enter Try.func27, Try.ntmps27
    go_wp2_with (first | ((with_reducible refine gate_dst (N := 2) rfl ?_); refine box_event ?hg (N := 2) ?hd (cs := #[.int .i8 a0_0, .int .i8 a0_1, .slice A0_2 l0_2.length c0_2, .slice A0_3 l0_3.length c0_3, .slice A0_4 l0_4.length c0_4]) (t := 41) ?hr ?_; (case hd => rfl); (case hg => rfl); (case hr => first | (go_simp; done) | (go_simp; rfl)); intro gb185 hg w21 hbox hb; have n0_ := zN (below_step (by repeat (first | (with_reducible first | exact HB.out | apply zA | apply zB | apply zC) | exact HB.out)) hb); have n1_ := zN (hbox); have n2_ := zN ((by rw [hg]; exact (below_size (by repeat (first | (with_reducible first | exact HB.out | apply zA | apply zB | apply zC) | exact HB.out))) : w.heap.size ≤ gb185)); have n3_ := zN ((by rw [hg]; exact (below_size (by repeat (first | (with_reducible first | exact HB.out | apply zA | apply zB | apply zC) | exact HB.out))) : w.heap.size ≤ gb185)); clear HB; have HB := n0_; have BK185 := n1_; have GW185 := n2_; have GE185 := n3_; clear n0_ n1_ n2_ n3_; clear hb hbox hg) | ((with_reducible refine gate_dst (N := 3) rfl ?_); refine box_event ?hg (N := 3) ?hd (cs := #[.int .i8 a1_0, .int .i8 a1_1, .slice A1_2 l1_2.length c1_2, .slice A1_3 l1_3.length c1_3, .slice A1_4 l1_4.length c1_4]) (t := 41) ?hr ?_; (case hd => rfl); (case hg => rfl); (case hr => first | (go_simp; done) | (go_simp; rfl)); intro gb186 hg w22 hbox hb; have n0_ := zN (blk_below (g := gb185) (o := .cells #[.int .i8 a0_0, .int .i8 a0_1, .slice A0_2 l0_2.length c0_2, .slice A0_3 l0_3.length c0_3, .slice A0_4 l0_4.length c0_4] 41 (0, 0)) (by (with_reducible repeat (first | refine zE ?_ _ | refine zF ?_ | refine zG ?_ _)); exact BK185.out) hb); have n1_ := zN (below_step (by repeat (first | (with_reducible first | exact HB.out | apply zA | apply zB | apply zC | refine zD ?_ GE185.out) | exact HB.out)) hb); have n2_ := zN (hbox); have n3_ := zN ((by rw [hg]; exact (below_size (by repeat (first | (with_reducible first | exact HB.out | apply zA | apply zB | apply zC | refine zD ?_ GE185.out) | exact HB.out))) : w.heap.size ≤ gb186)); have n4_ := zN ((by rw [hg]; exact (below_size (by repeat (first | (with_reducible first | exact HB.out | apply zA | apply zB | apply zC | refine zD ?_ GE185.out) | exact HB.out))) : w.heap.size ≤ gb186)); have n5_ := zN ((by rw [hg]; exact Nat.ne_of_lt (blk_lt (g := gb185) (o := .cells #[.int .i8 a0_0, .int .i8 a0_1, .slice A0_2 l0_2.length c0_2, .slice A0_3 l0_3.length c0_3, .slice A0_4 l0_4.length c0_4] 41 (0, 0)) (by (with_reducible repeat (first | refine zE ?_ _ | refine zF ?_ | refine zG ?_ _)); exact BK185.out)) : gb185 ≠ gb186)); have n6_ := zN ((by rw [hg]; exact Nat.ne_of_gt (blk_lt (g := gb185) (o := .cells #[.int .i8 a0_0, .int .i8 a0_1, .slice A0_2 l0_2.length c0_2, .slice A0_3 l0_3.length c0_3, .slice A0_4 l0_4.length c0_4] 41 (0, 0)) (by (with_reducible repeat (first | refine zE ?_ _ | refine zF ?_ | refine zG ?_ _)); exact BK185.out)) : gb186 ≠ gb185)); clear BK185; clear HB; have BK185 := n0_; have HB := n1_; have BK186 := n2_; have GW186 := n3_; have GE186 := n4_; have NB185_186 := n5_; have NB186_185 := n6_; clear n0_ n1_ n2_ n3_ n4_ n5_ n6_; clear hb hbox hg; have hnb23 := NB185_186.out; have hnc23 := NB186_185.out; have hcz24_0 : w22.cell? ⟨gb185, 0, none⟩ = some (.int .i8 a0_0) := (blk_cell BK185.out 0).trans rfl; have hcz24_1 : w22.cell? ⟨gb185, 1, none⟩ = some (.int .i8 a0_1) := (blk_cell BK185.out 1).trans rfl; have hcz24_2 : w22.cell? ⟨gb185, 2, none⟩ = some (.slice A0_2 l0_2.length c0_2) := (blk_cell BK185.out 2).trans rfl; have hcz24_3 : w22.cell? ⟨gb185, 3, none⟩ = some (.slice A0_3 l0_3.length c0_3) := (blk_cell BK185.out 3).trans rfl; have hcz24_4 : w22.cell? ⟨gb185, 4, none⟩ = some (.slice A0_4 l0_4.length c0_4) := (blk_cell BK185.out 4).trans rfl; have hfz24_0 := blk_frozen BK185.out 0; have hfz24_1 := blk_frozen BK185.out 1; have hfz24_2 := blk_frozen BK185.out 2; have hfz24_3 := blk_frozen BK185.out 3; have hfz24_4 := blk_frozen BK185.out 4; have hcz25_0 : w22.cell? ⟨gb186, 0, none⟩ = some (.int .i8 a1_0) := (blk_cell BK186.out 0).trans rfl; have hcz25_1 : w22.cell? ⟨gb186, 1, none⟩ = some (.int .i8 a1_1) := (blk_cell BK186.out 1).trans rfl; have hcz25_2 : w22.cell? ⟨gb186, 2, none⟩ = some (.slice A1_2 l1_2.length c1_2) := (blk_cell BK186.out 2).trans rfl; have hcz25_3 : w22.cell? ⟨gb186, 3, none⟩ = some (.slice A1_3 l1_3.length c1_3) := (blk_cell BK186.out 3).trans rfl; have hcz25_4 : w22.cell? ⟨gb186, 4, none⟩ = some (.slice A1_4 l1_4.length c1_4) := (blk_cell BK186.out 4).trans rfl; have hfz25_0 := blk_frozen BK186.out 0; have hfz25_1 := blk_frozen BK186.out 1; have hfz25_2 := blk_frozen BK186.out 2; have hfz25_3 := blk_frozen BK186.out 3; have hfz25_4 := blk_frozen BK186.out 4) | ((with_reducible refine gate_callee (f := 44) rfl ?_); refine goesL_ (some 9) rfl rfl Try.func44 (by kernel_rfl) rfl #[.agg #[.int .i8 a0_0, .int .i8 a0_1, .slice A0_2 l0_2.length c0_2], .agg #[.int .i8 a1_0, .int .i8 a1_1, .slice A1_2 l1_2.length c1_2]] rfl (by (try simp only [List.map_toArray, List.map_cons, List.map_nil]); first | done | rfl | (simp only [List.length_drop, List.length_take]; rfl)) ?_; (with_reducible refine (laws_eqBoard.calls k a0_0 a0_1 _ _ l0_2 a1_0 a1_1 _ _ l1_2 true _ ?side1 ?side2 ?side3 ?side4 A3.out).mono ?_); (case side1 => repeat (first | exact (Kd.C_below HR0_2.out HB.out) | (with_reducible refine Kd.C_alloc ?_ _) | (with_reducible refine Kd.C_drewN ?_ _) | (with_reducible refine Kd.C_drew ?_))); (case side2 => exact HC0_2.out); (case side3 => repeat (first | exact (Kd.C_below HR1_2.out HB.out) | (with_reducible refine Kd.C_alloc ?_ _) | (with_reducible refine Kd.C_drewN ?_ _) | (with_reducible refine Kd.C_drew ?_))); (case side4 => exact HC1_2.out); rintro e w26 ⟨rfl, hb⟩; refine ⟨_, rfl, ?_⟩; have n0_ := zN (blk_below (g := gb185) (o := .cells #[.int .i8 a0_0, .int .i8 a0_1, .slice A0_2 l0_2.length c0_2, .slice A0_3 l0_3.length c0_3, .slice A0_4 l0_4.length c0_4] 41 (0, 0)) (by (with_reducible repeat (first | refine zE ?_ _ | refine zF ?_ | refine zG ?_ _)); exact BK185.out) hb); have n1_ := zN (blk_below (g := gb186) (o := .cells #[.int .i8 a1_0, .int .i8 a1_1, .slice A1_2 l1_2.length c1_2, .slice A1_3 l1_3.length c1_3, .slice A1_4 l1_4.length c1_4] 41 (0, 0)) (by (with_reducible repeat (first | refine zE ?_ _ | refine zF ?_ | refine zG ?_ _)); exact BK186.out) hb); have n2_ := zN (below_step (by repeat (first | (with_reducible first | exact HB.out | apply zA | apply zB | apply zC | refine zD ?_ GE185.out | refine zD ?_ GE186.out) | exact HB.out)) hb); clear BK185; clear BK186; clear HB; have BK185 := n0_; have BK186 := n1_; have HB := n2_; clear n0_ n1_ n2_; (try clear hb); (try clear hb2); (try clear hk); (try clear hi); have hcz27_0 : w26.cell? ⟨gb185, 0, none⟩ = some (.int .i8 a0_0) := (blk_cell BK185.out 0).trans rfl; have hcz27_1 : w26.cell? ⟨gb185, 1, none⟩ = some (.int .i8 a0_1) := (blk_cell BK185.out 1).trans rfl; have hcz27_2 : w26.cell? ⟨gb185, 2, none⟩ = some (.slice A0_2 l0_2.length c0_2) := (blk_cell BK185.out 2).trans rfl; have hcz27_3 : w26.cell? ⟨gb185, 3, none⟩ = some (.slice A0_3 l0_3.length c0_3) := (blk_cell BK185.out 3).trans rfl; have hcz27_4 : w26.cell? ⟨gb185, 4, none⟩ = some (.slice A0_4 l0_4.length c0_4) := (blk_cell BK185.out 4).trans rfl; have hfz27_0 := blk_frozen BK185.out 0; have hfz27_1 := blk_frozen BK185.out 1; have hfz27_2 := blk_frozen BK185.out 2; have hfz27_3 := blk_frozen BK185.out 3; have hfz27_4 := blk_frozen BK185.out 4; have hcz28_0 : w26.cell? ⟨gb186, 0, none⟩ = some (.int .i8 a1_0) := (blk_cell BK186.out 0).trans rfl; have hcz28_1 : w26.cell? ⟨gb186, 1, none⟩ = some (.int .i8 a1_1) := (blk_cell BK186.out 1).trans rfl; have hcz28_2 : w26.cell? ⟨gb186, 2, none⟩ = some (.slice A1_2 l1_2.length c1_2) := (blk_cell BK186.out 2).trans rfl; have hcz28_3 : w26.cell? ⟨gb186, 3, none⟩ = some (.slice A1_3 l1_3.length c1_3) := (blk_cell BK186.out 3).trans rfl; have hcz28_4 : w26.cell? ⟨gb186, 4, none⟩ = some (.slice A1_4 l1_4.length c1_4) := (blk_cell BK186.out 4).trans rfl; have hfz28_0 := blk_frozen BK186.out 0; have hfz28_1 := blk_frozen BK186.out 1; have hfz28_2 := blk_frozen BK186.out 2; have hfz28_3 := blk_frozen BK186.out 3; have hfz28_4 := blk_frozen BK186.out 4) | ((with_reducible refine gate_callee (f := 92) rfl ?_); refine goesL_ (some 15) rfl rfl Try.func92 (by kernel_rfl) rfl #[.slice A0_3 l0_3.length c0_3, .slice A1_3 l1_3.length c1_3] rfl (by (try simp only [List.map_toArray, List.map_cons, List.map_nil]); first | done | rfl | (simp only [List.length_drop, List.length_take]; rfl)) ?_; (with_reducible refine (laws_eqPortS.calls k _ _ l0_3 _ _ l1_3 true _ ?side1 ?side2 ?side3 ?side4 A5.out).mono ?_); (case side1 => repeat (first | exact (Kd.C_below HR0_3.out HB.out) | (with_reducible refine Kd.C_alloc ?_ _) | (with_reducible refine Kd.C_drewN ?_ _) | (with_reducible refine Kd.C_drew ?_))); (case side2 => exact HC0_3.out); (case side3 => repeat (first | exact (Kd.C_below HR1_3.out HB.out) | (with_reducible refine Kd.C_alloc ?_ _) | (with_reducible refine Kd.C_drewN ?_ _) | (with_reducible refine Kd.C_drew ?_))); (case side4 => exact HC1_3.out); rintro e w29 ⟨rfl, hb⟩; refine ⟨_, rfl, ?_⟩; have n0_ := zN (blk_below (g := gb185) (o := .cells #[.int .i8 a0_0, .int .i8 a0_1, .slice A0_2 l0_2.length c0_2, .slice A0_3 l0_3.length c0_3, .slice A0_4 l0_4.length c0_4] 41 (0, 0)) (by (with_reducible repeat (first | refine zE ?_ _ | refine zF ?_ | refine zG ?_ _)); exact BK185.out) hb); have n1_ := zN (blk_below (g := gb186) (o := .cells #[.int .i8 a1_0, .int .i8 a1_1, .slice A1_2 l1_2.length c1_2, .slice A1_3 l1_3.length c1_3, .slice A1_4 l1_4.length c1_4] 41 (0, 0)) (by (with_reducible repeat (first | refine zE ?_ _ | refine zF ?_ | refine zG ?_ _)); exact BK186.out) hb); have n2_ := zN (below_step (by repeat (first | (with_reducible first | exact HB.out | apply zA | apply zB | apply zC | refine zD ?_ GE185.out | refine zD ?_ GE186.out) | exact HB.out)) hb); clear BK185; clear BK186; clear HB; have BK185 := n0_; have BK186 := n1_; have HB := n2_; clear n0_ n1_ n2_; (try clear hb); (try clear hb2); (try clear hk); (try clear hi); have hcz30_0 : w29.cell? ⟨gb185, 0, none⟩ = some (.int .i8 a0_0) := (blk_cell BK185.out 0).trans rfl; have hcz30_1 : w29.cell? ⟨gb185, 1, none⟩ = some (.int .i8 a0_1) := (blk_cell BK185.out 1).trans rfl; have hcz30_2 : w29.cell? ⟨gb185, 2, none⟩ = some (.slice A0_2 l0_2.length c0_2) := (blk_cell BK185.out 2).trans rfl; have hcz30_3 : w29.cell? ⟨gb185, 3, none⟩ = some (.slice A0_3 l0_3.length c0_3) := (blk_cell BK185.out 3).trans rfl; have hcz30_4 : w29.cell? ⟨gb185, 4, none⟩ = some (.slice A0_4 l0_4.length c0_4) := (blk_cell BK185.out 4).trans rfl; have hfz30_0 := blk_frozen BK185.out 0; have hfz30_1 := blk_frozen BK185.out 1; have hfz30_2 := blk_frozen BK185.out 2; have hfz30_3 := blk_frozen BK185.out 3; have hfz30_4 := blk_frozen BK185.out 4; have hcz31_0 : w29.cell? ⟨gb186, 0, none⟩ = some (.int .i8 a1_0) := (blk_cell BK186.out 0).trans rfl; have hcz31_1 : w29.cell? ⟨gb186, 1, none⟩ = some (.int .i8 a1_1) := (blk_cell BK186.out 1).trans rfl; have hcz31_2 : w29.cell? ⟨gb186, 2, none⟩ = some (.slice A1_2 l1_2.length c1_2) := (blk_cell BK186.out 2).trans rfl; have hcz31_3 : w29.cell? ⟨gb186, 3, none⟩ = some (.slice A1_3 l1_3.length c1_3) := (blk_cell BK186.out 3).trans rfl; have hcz31_4 : w29.cell? ⟨gb186, 4, none⟩ = some (.slice A1_4 l1_4.length c1_4) := (blk_cell BK186.out 4).trans rfl; have hfz31_0 := blk_frozen BK186.out 0; have hfz31_1 := blk_frozen BK186.out 1; have hfz31_2 := blk_frozen BK186.out 2; have hfz31_3 := blk_frozen BK186.out 3; have hfz31_4 := blk_frozen BK186.out 4) | ((with_reducible refine gate_callee (f := 93) rfl ?_); refine goesL_ (some 21) rfl rfl Try.func93 (by kernel_rfl) rfl #[.slice A0_4 l0_4.length c0_4, .slice A1_4 l1_4.length c1_4] rfl (by (try simp only [List.map_toArray, List.map_cons, List.map_nil]); first | done | rfl | (simp only [List.length_drop, List.length_take]; rfl)) ?_; (with_reducible refine (laws_eqCellS.calls k _ _ l0_4 _ _ l1_4 false _ ?side1 ?side2 ?side3 ?side4 A7.out).mono ?_); (case side1 => repeat (first | exact (Kd.C_below HR0_4.out HB.out) | (with_reducible refine Kd.C_alloc ?_ _) | (with_reducible refine Kd.C_drewN ?_ _) | (with_reducible refine Kd.C_drew ?_))); (case side2 => exact HC0_4.out); (case side3 => repeat (first | exact (Kd.C_below HR1_4.out HB.out) | (with_reducible refine Kd.C_alloc ?_ _) | (with_reducible refine Kd.C_drewN ?_ _) | (with_reducible refine Kd.C_drew ?_))); (case side4 => exact HC1_4.out); rintro e w32 ⟨rfl, hb⟩; refine ⟨_, rfl, ?_⟩; have n0_ := zN (blk_below (g := gb185) (o := .cells #[.int .i8 a0_0, .int .i8 a0_1, .slice A0_2 l0_2.length c0_2, .slice A0_3 l0_3.length c0_3, .slice A0_4 l0_4.length c0_4] 41 (0, 0)) (by (with_reducible repeat (first | refine zE ?_ _ | refine zF ?_ | refine zG ?_ _)); exact BK185.out) hb); have n1_ := zN (blk_below (g := gb186) (o := .cells #[.int .i8 a1_0, .int .i8 a1_1, .slice A1_2 l1_2.length c1_2, .slice A1_3 l1_3.length c1_3, .slice A1_4 l1_4.length c1_4] 41 (0, 0)) (by (with_reducible repeat (first | refine zE ?_ _ | refine zF ?_ | refine zG ?_ _)); exact BK186.out) hb); have n2_ := zN (below_step (by repeat (first | (with_reducible first | exact HB.out | apply zA | apply zB | apply zC | refine zD ?_ GE185.out | refine zD ?_ GE186.out) | exact HB.out)) hb); clear BK185; clear BK186; clear HB; have BK185 := n0_; have BK186 := n1_; have HB := n2_; clear n0_ n1_ n2_; (try clear hb); (try clear hb2); (try clear hk); (try clear hi)))
    go_ret
    exact ⟨by first | rfl | (simp [errW_none, errW_some] <;> rfl) | (simp [*, errW_none, errW_some] <;> rfl), by repeat (first | (with_reducible first | exact HB.out | apply zA | apply zB | apply zC | refine zD ?_ GE185.out | refine zD ?_ GE186.out) | exact HB.out)⟩
  ·replace c6 := Bool.eq_false_iff.mpr c6
   subst c6
   have H1 : (some false) = some r := by rw [if_neg (show ¬ (false = true) by decide)] at H; exact H
   clear H
   have H := H1
   clear H1
   obtain rfl := Option.some.inj H
   go_enter Try.func27, Try.ntmps27
   go_wp2_with (first | ((with_reducible refine gate_dst (N := 2) rfl ?_); refine box_event ?hg (N := 2) ?hd (cs := #[.int .i8 a0_0, .int .i8 a0_1, .slice A0_2 l0_2.length c0_2, .slice A0_3 l0_3.length c0_3, .slice A0_4 l0_4.length c0_4]) (t := 41) ?hr ?_; (case hd => rfl); (case hg => rfl); (case hr => first | (go_simp; done) | (go_simp; rfl)); intro gb185 hg w33 hbox hb; have n0_ := zN (below_step (by repeat (first | (with_reducible first | exact HB.out | apply zA | apply zB | apply zC) | exact HB.out)) hb); have n1_ := zN (hbox); have n2_ := zN ((by rw [hg]; exact (below_size (by repeat (first | (with_reducible first | exact HB.out | apply zA | apply zB | apply zC) | exact HB.out))) : w.heap.size ≤ gb185)); have n3_ := zN ((by rw [hg]; exact (below_size (by repeat (first | (with_reducible first | exact HB.out | apply zA | apply zB | apply zC) | exact HB.out))) : w.heap.size ≤ gb185)); clear HB; have HB := n0_; have BK185 := n1_; have GW185 := n2_; have GE185 := n3_; clear n0_ n1_ n2_ n3_; clear hb hbox hg) | ((with_reducible refine gate_dst (N := 3) rfl ?_); refine box_event ?hg (N := 3) ?hd (cs := #[.int .i8 a1_0, .int .i8 a1_1, .slice A1_2 l1_2.length c1_2, .slice A1_3 l1_3.length c1_3, .slice A1_4 l1_4.length c1_4]) (t := 41) ?hr ?_; (case hd => rfl); (case hg => rfl); (case hr => first | (go_simp; done) | (go_simp; rfl)); intro gb186 hg w34 hbox hb; have n0_ := zN (blk_below (g := gb185) (o := .cells #[.int .i8 a0_0, .int .i8 a0_1, .slice A0_2 l0_2.length c0_2, .slice A0_3 l0_3.length c0_3, .slice A0_4 l0_4.length c0_4] 41 (0, 0)) (by (with_reducible repeat (first | refine zE ?_ _ | refine zF ?_ | refine zG ?_ _)); exact BK185.out) hb); have n1_ := zN (below_step (by repeat (first | (with_reducible first | exact HB.out | apply zA | apply zB | apply zC | refine zD ?_ GE185.out) | exact HB.out)) hb); have n2_ := zN (hbox); have n3_ := zN ((by rw [hg]; exact (below_size (by repeat (first | (with_reducible first | exact HB.out | apply zA | apply zB | apply zC | refine zD ?_ GE185.out) | exact HB.out))) : w.heap.size ≤ gb186)); have n4_ := zN ((by rw [hg]; exact (below_size (by repeat (first | (with_reducible first | exact HB.out | apply zA | apply zB | apply zC | refine zD ?_ GE185.out) | exact HB.out))) : w.heap.size ≤ gb186)); have n5_ := zN ((by rw [hg]; exact Nat.ne_of_lt (blk_lt (g := gb185) (o := .cells #[.int .i8 a0_0, .int .i8 a0_1, .slice A0_2 l0_2.length c0_2, .slice A0_3 l0_3.length c0_3, .slice A0_4 l0_4.length c0_4] 41 (0, 0)) (by (with_reducible repeat (first | refine zE ?_ _ | refine zF ?_ | refine zG ?_ _)); exact BK185.out)) : gb185 ≠ gb186)); have n6_ := zN ((by rw [hg]; exact Nat.ne_of_gt (blk_lt (g := gb185) (o := .cells #[.int .i8 a0_0, .int .i8 a0_1, .slice A0_2 l0_2.length c0_2, .slice A0_3 l0_3.length c0_3, .slice A0_4 l0_4.length c0_4] 41 (0, 0)) (by (with_reducible repeat (first | refine zE ?_ _ | refine zF ?_ | refine zG ?_ _)); exact BK185.out)) : gb186 ≠ gb185)); clear BK185; clear HB; have BK185 := n0_; have HB := n1_; have BK186 := n2_; have GW186 := n3_; have GE186 := n4_; have NB185_186 := n5_; have NB186_185 := n6_; clear n0_ n1_ n2_ n3_ n4_ n5_ n6_; clear hb hbox hg; have hnb35 := NB185_186.out; have hnc35 := NB186_185.out; have hcz36_0 : w34.cell? ⟨gb185, 0, none⟩ = some (.int .i8 a0_0) := (blk_cell BK185.out 0).trans rfl; have hcz36_1 : w34.cell? ⟨gb185, 1, none⟩ = some (.int .i8 a0_1) := (blk_cell BK185.out 1).trans rfl; have hcz36_2 : w34.cell? ⟨gb185, 2, none⟩ = some (.slice A0_2 l0_2.length c0_2) := (blk_cell BK185.out 2).trans rfl; have hcz36_3 : w34.cell? ⟨gb185, 3, none⟩ = some (.slice A0_3 l0_3.length c0_3) := (blk_cell BK185.out 3).trans rfl; have hcz36_4 : w34.cell? ⟨gb185, 4, none⟩ = some (.slice A0_4 l0_4.length c0_4) := (blk_cell BK185.out 4).trans rfl; have hfz36_0 := blk_frozen BK185.out 0; have hfz36_1 := blk_frozen BK185.out 1; have hfz36_2 := blk_frozen BK185.out 2; have hfz36_3 := blk_frozen BK185.out 3; have hfz36_4 := blk_frozen BK185.out 4; have hcz37_0 : w34.cell? ⟨gb186, 0, none⟩ = some (.int .i8 a1_0) := (blk_cell BK186.out 0).trans rfl; have hcz37_1 : w34.cell? ⟨gb186, 1, none⟩ = some (.int .i8 a1_1) := (blk_cell BK186.out 1).trans rfl; have hcz37_2 : w34.cell? ⟨gb186, 2, none⟩ = some (.slice A1_2 l1_2.length c1_2) := (blk_cell BK186.out 2).trans rfl; have hcz37_3 : w34.cell? ⟨gb186, 3, none⟩ = some (.slice A1_3 l1_3.length c1_3) := (blk_cell BK186.out 3).trans rfl; have hcz37_4 : w34.cell? ⟨gb186, 4, none⟩ = some (.slice A1_4 l1_4.length c1_4) := (blk_cell BK186.out 4).trans rfl; have hfz37_0 := blk_frozen BK186.out 0; have hfz37_1 := blk_frozen BK186.out 1; have hfz37_2 := blk_frozen BK186.out 2; have hfz37_3 := blk_frozen BK186.out 3; have hfz37_4 := blk_frozen BK186.out 4) | ((with_reducible refine gate_callee (f := 44) rfl ?_); refine goesL_ (some 9) rfl rfl Try.func44 (by kernel_rfl) rfl #[.agg #[.int .i8 a0_0, .int .i8 a0_1, .slice A0_2 l0_2.length c0_2], .agg #[.int .i8 a1_0, .int .i8 a1_1, .slice A1_2 l1_2.length c1_2]] rfl (by (try simp only [List.map_toArray, List.map_cons, List.map_nil]); first | done | rfl | (simp only [List.length_drop, List.length_take]; rfl)) ?_; (with_reducible refine (laws_eqBoard.calls k a0_0 a0_1 _ _ l0_2 a1_0 a1_1 _ _ l1_2 true _ ?side1 ?side2 ?side3 ?side4 A3.out).mono ?_); (case side1 => repeat (first | exact (Kd.C_below HR0_2.out HB.out) | (with_reducible refine Kd.C_alloc ?_ _) | (with_reducible refine Kd.C_drewN ?_ _) | (with_reducible refine Kd.C_drew ?_))); (case side2 => exact HC0_2.out); (case side3 => repeat (first | exact (Kd.C_below HR1_2.out HB.out) | (with_reducible refine Kd.C_alloc ?_ _) | (with_reducible refine Kd.C_drewN ?_ _) | (with_reducible refine Kd.C_drew ?_))); (case side4 => exact HC1_2.out); rintro e w38 ⟨rfl, hb⟩; refine ⟨_, rfl, ?_⟩; have n0_ := zN (blk_below (g := gb185) (o := .cells #[.int .i8 a0_0, .int .i8 a0_1, .slice A0_2 l0_2.length c0_2, .slice A0_3 l0_3.length c0_3, .slice A0_4 l0_4.length c0_4] 41 (0, 0)) (by (with_reducible repeat (first | refine zE ?_ _ | refine zF ?_ | refine zG ?_ _)); exact BK185.out) hb); have n1_ := zN (blk_below (g := gb186) (o := .cells #[.int .i8 a1_0, .int .i8 a1_1, .slice A1_2 l1_2.length c1_2, .slice A1_3 l1_3.length c1_3, .slice A1_4 l1_4.length c1_4] 41 (0, 0)) (by (with_reducible repeat (first | refine zE ?_ _ | refine zF ?_ | refine zG ?_ _)); exact BK186.out) hb); have n2_ := zN (below_step (by repeat (first | (with_reducible first | exact HB.out | apply zA | apply zB | apply zC | refine zD ?_ GE185.out | refine zD ?_ GE186.out) | exact HB.out)) hb); clear BK185; clear BK186; clear HB; have BK185 := n0_; have BK186 := n1_; have HB := n2_; clear n0_ n1_ n2_; (try clear hb); (try clear hb2); (try clear hk); (try clear hi); have hcz39_0 : w38.cell? ⟨gb185, 0, none⟩ = some (.int .i8 a0_0) := (blk_cell BK185.out 0).trans rfl; have hcz39_1 : w38.cell? ⟨gb185, 1, none⟩ = some (.int .i8 a0_1) := (blk_cell BK185.out 1).trans rfl; have hcz39_2 : w38.cell? ⟨gb185, 2, none⟩ = some (.slice A0_2 l0_2.length c0_2) := (blk_cell BK185.out 2).trans rfl; have hcz39_3 : w38.cell? ⟨gb185, 3, none⟩ = some (.slice A0_3 l0_3.length c0_3) := (blk_cell BK185.out 3).trans rfl; have hcz39_4 : w38.cell? ⟨gb185, 4, none⟩ = some (.slice A0_4 l0_4.length c0_4) := (blk_cell BK185.out 4).trans rfl; have hfz39_0 := blk_frozen BK185.out 0; have hfz39_1 := blk_frozen BK185.out 1; have hfz39_2 := blk_frozen BK185.out 2; have hfz39_3 := blk_frozen BK185.out 3; have hfz39_4 := blk_frozen BK185.out 4; have hcz40_0 : w38.cell? ⟨gb186, 0, none⟩ = some (.int .i8 a1_0) := (blk_cell BK186.out 0).trans rfl; have hcz40_1 : w38.cell? ⟨gb186, 1, none⟩ = some (.int .i8 a1_1) := (blk_cell BK186.out 1).trans rfl; have hcz40_2 : w38.cell? ⟨gb186, 2, none⟩ = some (.slice A1_2 l1_2.length c1_2) := (blk_cell BK186.out 2).trans rfl; have hcz40_3 : w38.cell? ⟨gb186, 3, none⟩ = some (.slice A1_3 l1_3.length c1_3) := (blk_cell BK186.out 3).trans rfl; have hcz40_4 : w38.cell? ⟨gb186, 4, none⟩ = some (.slice A1_4 l1_4.length c1_4) := (blk_cell BK186.out 4).trans rfl; have hfz40_0 := blk_frozen BK186.out 0; have hfz40_1 := blk_frozen BK186.out 1; have hfz40_2 := blk_frozen BK186.out 2; have hfz40_3 := blk_frozen BK186.out 3; have hfz40_4 := blk_frozen BK186.out 4) | ((with_reducible refine gate_callee (f := 92) rfl ?_); refine goesL_ (some 15) rfl rfl Try.func92 (by kernel_rfl) rfl #[.slice A0_3 l0_3.length c0_3, .slice A1_3 l1_3.length c1_3] rfl (by (try simp only [List.map_toArray, List.map_cons, List.map_nil]); first | done | rfl | (simp only [List.length_drop, List.length_take]; rfl)) ?_; (with_reducible refine (laws_eqPortS.calls k _ _ l0_3 _ _ l1_3 false _ ?side1 ?side2 ?side3 ?side4 A5.out).mono ?_); (case side1 => repeat (first | exact (Kd.C_below HR0_3.out HB.out) | (with_reducible refine Kd.C_alloc ?_ _) | (with_reducible refine Kd.C_drewN ?_ _) | (with_reducible refine Kd.C_drew ?_))); (case side2 => exact HC0_3.out); (case side3 => repeat (first | exact (Kd.C_below HR1_3.out HB.out) | (with_reducible refine Kd.C_alloc ?_ _) | (with_reducible refine Kd.C_drewN ?_ _) | (with_reducible refine Kd.C_drew ?_))); (case side4 => exact HC1_3.out); rintro e w41 ⟨rfl, hb⟩; refine ⟨_, rfl, ?_⟩; have n0_ := zN (blk_below (g := gb185) (o := .cells #[.int .i8 a0_0, .int .i8 a0_1, .slice A0_2 l0_2.length c0_2, .slice A0_3 l0_3.length c0_3, .slice A0_4 l0_4.length c0_4] 41 (0, 0)) (by (with_reducible repeat (first | refine zE ?_ _ | refine zF ?_ | refine zG ?_ _)); exact BK185.out) hb); have n1_ := zN (blk_below (g := gb186) (o := .cells #[.int .i8 a1_0, .int .i8 a1_1, .slice A1_2 l1_2.length c1_2, .slice A1_3 l1_3.length c1_3, .slice A1_4 l1_4.length c1_4] 41 (0, 0)) (by (with_reducible repeat (first | refine zE ?_ _ | refine zF ?_ | refine zG ?_ _)); exact BK186.out) hb); have n2_ := zN (below_step (by repeat (first | (with_reducible first | exact HB.out | apply zA | apply zB | apply zC | refine zD ?_ GE185.out | refine zD ?_ GE186.out) | exact HB.out)) hb); clear BK185; clear BK186; clear HB; have BK185 := n0_; have BK186 := n1_; have HB := n2_; clear n0_ n1_ n2_; (try clear hb); (try clear hb2); (try clear hk); (try clear hi)))
   go_ret
   exact ⟨by first | rfl | (simp [errW_none, errW_some] <;> rfl) | (simp [*, errW_none, errW_some] <;> rfl), by repeat (first | (with_reducible first | exact HB.out | apply zA | apply zB | apply zC | refine zD ?_ GE185.out | refine zD ?_ GE186.out) | exact HB.out)⟩
 ·replace c4 := Bool.eq_false_iff.mpr c4
  subst c4
  have H1 : (some false) = some r := by rw [if_neg (show ¬ (false = true) by decide)] at H; exact H
  clear H
  have H := H1
  clear H1
  obtain rfl := Option.some.inj H
  go_enter Try.func27, Try.ntmps27
  go_wp2_with (first | ((with_reducible refine gate_dst (N := 2) rfl ?_); refine box_event ?hg (N := 2) ?hd (cs := #[.int .i8 a0_0, .int .i8 a0_1, .slice A0_2 l0_2.length c0_2, .slice A0_3 l0_3.length c0_3, .slice A0_4 l0_4.length c0_4]) (t := 41) ?hr ?_; (case hd => rfl); (case hg => rfl); (case hr => first | (go_simp; done) | (go_simp; rfl)); intro gb185 hg w42 hbox hb; have n0_ := zN (below_step (by repeat (first | (with_reducible first | exact HB.out | apply zA | apply zB | apply zC) | exact HB.out)) hb); have n1_ := zN (hbox); have n2_ := zN ((by rw [hg]; exact (below_size (by repeat (first | (with_reducible first | exact HB.out | apply zA | apply zB | apply zC) | exact HB.out))) : w.heap.size ≤ gb185)); have n3_ := zN ((by rw [hg]; exact (below_size (by repeat (first | (with_reducible first | exact HB.out | apply zA | apply zB | apply zC) | exact HB.out))) : w.heap.size ≤ gb185)); clear HB; have HB := n0_; have BK185 := n1_; have GW185 := n2_; have GE185 := n3_; clear n0_ n1_ n2_ n3_; clear hb hbox hg) | ((with_reducible refine gate_dst (N := 3) rfl ?_); refine box_event ?hg (N := 3) ?hd (cs := #[.int .i8 a1_0, .int .i8 a1_1, .slice A1_2 l1_2.length c1_2, .slice A1_3 l1_3.length c1_3, .slice A1_4 l1_4.length c1_4]) (t := 41) ?hr ?_; (case hd => rfl); (case hg => rfl); (case hr => first | (go_simp; done) | (go_simp; rfl)); intro gb186 hg w43 hbox hb; have n0_ := zN (blk_below (g := gb185) (o := .cells #[.int .i8 a0_0, .int .i8 a0_1, .slice A0_2 l0_2.length c0_2, .slice A0_3 l0_3.length c0_3, .slice A0_4 l0_4.length c0_4] 41 (0, 0)) (by (with_reducible repeat (first | refine zE ?_ _ | refine zF ?_ | refine zG ?_ _)); exact BK185.out) hb); have n1_ := zN (below_step (by repeat (first | (with_reducible first | exact HB.out | apply zA | apply zB | apply zC | refine zD ?_ GE185.out) | exact HB.out)) hb); have n2_ := zN (hbox); have n3_ := zN ((by rw [hg]; exact (below_size (by repeat (first | (with_reducible first | exact HB.out | apply zA | apply zB | apply zC | refine zD ?_ GE185.out) | exact HB.out))) : w.heap.size ≤ gb186)); have n4_ := zN ((by rw [hg]; exact (below_size (by repeat (first | (with_reducible first | exact HB.out | apply zA | apply zB | apply zC | refine zD ?_ GE185.out) | exact HB.out))) : w.heap.size ≤ gb186)); have n5_ := zN ((by rw [hg]; exact Nat.ne_of_lt (blk_lt (g := gb185) (o := .cells #[.int .i8 a0_0, .int .i8 a0_1, .slice A0_2 l0_2.length c0_2, .slice A0_3 l0_3.length c0_3, .slice A0_4 l0_4.length c0_4] 41 (0, 0)) (by (with_reducible repeat (first | refine zE ?_ _ | refine zF ?_ | refine zG ?_ _)); exact BK185.out)) : gb185 ≠ gb186)); have n6_ := zN ((by rw [hg]; exact Nat.ne_of_gt (blk_lt (g := gb185) (o := .cells #[.int .i8 a0_0, .int .i8 a0_1, .slice A0_2 l0_2.length c0_2, .slice A0_3 l0_3.length c0_3, .slice A0_4 l0_4.length c0_4] 41 (0, 0)) (by (with_reducible repeat (first | refine zE ?_ _ | refine zF ?_ | refine zG ?_ _)); exact BK185.out)) : gb186 ≠ gb185)); clear BK185; clear HB; have BK185 := n0_; have HB := n1_; have BK186 := n2_; have GW186 := n3_; have GE186 := n4_; have NB185_186 := n5_; have NB186_185 := n6_; clear n0_ n1_ n2_ n3_ n4_ n5_ n6_; clear hb hbox hg; have hnb44 := NB185_186.out; have hnc44 := NB186_185.out; have hcz45_0 : w43.cell? ⟨gb185, 0, none⟩ = some (.int .i8 a0_0) := (blk_cell BK185.out 0).trans rfl; have hcz45_1 : w43.cell? ⟨gb185, 1, none⟩ = some (.int .i8 a0_1) := (blk_cell BK185.out 1).trans rfl; have hcz45_2 : w43.cell? ⟨gb185, 2, none⟩ = some (.slice A0_2 l0_2.length c0_2) := (blk_cell BK185.out 2).trans rfl; have hcz45_3 : w43.cell? ⟨gb185, 3, none⟩ = some (.slice A0_3 l0_3.length c0_3) := (blk_cell BK185.out 3).trans rfl; have hcz45_4 : w43.cell? ⟨gb185, 4, none⟩ = some (.slice A0_4 l0_4.length c0_4) := (blk_cell BK185.out 4).trans rfl; have hfz45_0 := blk_frozen BK185.out 0; have hfz45_1 := blk_frozen BK185.out 1; have hfz45_2 := blk_frozen BK185.out 2; have hfz45_3 := blk_frozen BK185.out 3; have hfz45_4 := blk_frozen BK185.out 4; have hcz46_0 : w43.cell? ⟨gb186, 0, none⟩ = some (.int .i8 a1_0) := (blk_cell BK186.out 0).trans rfl; have hcz46_1 : w43.cell? ⟨gb186, 1, none⟩ = some (.int .i8 a1_1) := (blk_cell BK186.out 1).trans rfl; have hcz46_2 : w43.cell? ⟨gb186, 2, none⟩ = some (.slice A1_2 l1_2.length c1_2) := (blk_cell BK186.out 2).trans rfl; have hcz46_3 : w43.cell? ⟨gb186, 3, none⟩ = some (.slice A1_3 l1_3.length c1_3) := (blk_cell BK186.out 3).trans rfl; have hcz46_4 : w43.cell? ⟨gb186, 4, none⟩ = some (.slice A1_4 l1_4.length c1_4) := (blk_cell BK186.out 4).trans rfl; have hfz46_0 := blk_frozen BK186.out 0; have hfz46_1 := blk_frozen BK186.out 1; have hfz46_2 := blk_frozen BK186.out 2; have hfz46_3 := blk_frozen BK186.out 3; have hfz46_4 := blk_frozen BK186.out 4) | ((with_reducible refine gate_callee (f := 44) rfl ?_); refine goesL_ (some 9) rfl rfl Try.func44 (by kernel_rfl) rfl #[.agg #[.int .i8 a0_0, .int .i8 a0_1, .slice A0_2 l0_2.length c0_2], .agg #[.int .i8 a1_0, .int .i8 a1_1, .slice A1_2 l1_2.length c1_2]] rfl (by (try simp only [List.map_toArray, List.map_cons, List.map_nil]); first | done | rfl | (simp only [List.length_drop, List.length_take]; rfl)) ?_; (with_reducible refine (laws_eqBoard.calls k a0_0 a0_1 _ _ l0_2 a1_0 a1_1 _ _ l1_2 false _ ?side1 ?side2 ?side3 ?side4 A3.out).mono ?_); (case side1 => repeat (first | exact (Kd.C_below HR0_2.out HB.out) | (with_reducible refine Kd.C_alloc ?_ _) | (with_reducible refine Kd.C_drewN ?_ _) | (with_reducible refine Kd.C_drew ?_))); (case side2 => exact HC0_2.out); (case side3 => repeat (first | exact (Kd.C_below HR1_2.out HB.out) | (with_reducible refine Kd.C_alloc ?_ _) | (with_reducible refine Kd.C_drewN ?_ _) | (with_reducible refine Kd.C_drew ?_))); (case side4 => exact HC1_2.out); rintro e w47 ⟨rfl, hb⟩; refine ⟨_, rfl, ?_⟩; have n0_ := zN (blk_below (g := gb185) (o := .cells #[.int .i8 a0_0, .int .i8 a0_1, .slice A0_2 l0_2.length c0_2, .slice A0_3 l0_3.length c0_3, .slice A0_4 l0_4.length c0_4] 41 (0, 0)) (by (with_reducible repeat (first | refine zE ?_ _ | refine zF ?_ | refine zG ?_ _)); exact BK185.out) hb); have n1_ := zN (blk_below (g := gb186) (o := .cells #[.int .i8 a1_0, .int .i8 a1_1, .slice A1_2 l1_2.length c1_2, .slice A1_3 l1_3.length c1_3, .slice A1_4 l1_4.length c1_4] 41 (0, 0)) (by (with_reducible repeat (first | refine zE ?_ _ | refine zF ?_ | refine zG ?_ _)); exact BK186.out) hb); have n2_ := zN (below_step (by repeat (first | (with_reducible first | exact HB.out | apply zA | apply zB | apply zC | refine zD ?_ GE185.out | refine zD ?_ GE186.out) | exact HB.out)) hb); clear BK185; clear BK186; clear HB; have BK185 := n0_; have BK186 := n1_; have HB := n2_; clear n0_ n1_ n2_; (try clear hb); (try clear hb2); (try clear hk); (try clear hi)))
  go_ret
  exact ⟨by first | rfl | (simp [errW_none, errW_some] <;> rfl) | (simp [*, errW_none, errW_some] <;> rfl), by repeat (first | (with_reducible first | exact HB.out | apply zA | apply zB | apply zC | refine zD ?_ GE185.out | refine zD ?_ GE186.out) | exact HB.out)⟩

end Go.Proofs.Ytffnfpnajkgnaaa.PFnExactValidMachine
