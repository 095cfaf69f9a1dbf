-- WRITTEN by xprint.py, a program of this session's. Not trusted: Lean checks it.
-- packed by pack.py
import Derived.Test.YtjeejglobdgpjaaPFnPiecesx0
import Derived.Test.YtjeejglobdgpjaaPFnPiecesx5
import Derived.Test.YtjeejglobdgpjaaTFnPiecesa
namespace Go.Proofs.Ytjeejglobdgpjaa.PFnPieces
open Go.RowKit Go.Proofs.YtjeejglobdgpjaaW.PrintWords Go.Proofs.YtjeejglobdgpjaaW.PrintLast Go.Proofs.YtjeejglobdgpjaaW.PrintMore Go.Proofs.YtjeejglobdgpjaaX
attribute [local go_sem] max2_int min2_int max_two min_two max_three min_three max_four min_four   -- for this text's walks alone
set_option maxHeartbeats 8000000
set_option maxRecDepth 100000
set_option linter.unusedVariables false
set_option linter.unusedSimpArgs false

def impl_sides_has.f (a0 : Int) (a1 : Int) : Option (Bool) := if 0 ≤ a1 then (some ((Go.bits .and .u8 (shr .u8 a0 a1) 1) == 1)) else (none)
theorem impl_sides_has.calls (a0 : Int) (a1 : Int) (r : Bool) (w : World) (h : impl_sides_has.f a0 a1 = some r) :
    Calls Try.prog 31 #[.int .u8 a0, .int .i64 a1] w fun e w' => e = .returned (.bool r) ∧ Drawn0 w w' := by
 have H : (if 0 ≤ a1 then (some ((Go.bits .and .u8 (shr .u8 a0 a1) 1) == 1)) else (none)) = some r := h
 clear h
 by_cases c3 : 0 ≤ a1
 rotate_left
 ·rw [if_neg c3] at H
  exact absurd H (by simp)
 rw [if_pos c3] at H
 have c3b0 := eq_true c3
 have c3b1 : decide (0 ≤ a1) = true := decide_eq_true c3
 clear c3
 obtain ⟨ji4, hji4⟩ : ∃ j_ : Int, (shr .u8 a0 a1) = j_ := ⟨_, rfl⟩
 replace H : (some ((Go.bits .and .u8 (ji4) 1) == 1)) = some r := by first | (rw [hji4] at H; exact H) | (simp only [hji4] at H ⊢; exact H)
 have hji4_ : (a0 / 2 ^ min a1.toNat 8) = ji4 := hji4
 have hji4z : a1 ≤ 8 → (a0 / 2 ^ a1.toNat) = ji4 := shr_small hji4
 obtain rfl := Option.some.inj H
 go_enter Try.func31, Try.ntmps31
 go_wp2
 go_ret
 exact ⟨by first | rfl | (simp; done) | (simp only [← hji4] <;> (first | rfl | simp)) | (simp [*]; done) | (exact congrArg (Value.int .i64) (wrap_eq (by omega))), zdr⟩
def impl_opposite.f (a0 : Int) : Option (Int) := some (Int.tmod (wrap64 (a0 + 2)) 4)
theorem impl_opposite.calls (a0 : Int) (r : Int) (w : World) (h : impl_opposite.f a0 = some r) :
    Calls Try.prog 33 #[.int .i64 a0] w fun e w' => e = .returned (.int .i64 r) ∧ Drawn0 w w' := by
 have H : (some (Int.tmod (wrap64 (a0 + 2)) 4)) = some r := h
 clear h
 obtain rfl := Option.some.inj H
 go_enter Try.func33, Try.ntmps33
 go_wp2
 go_ret
 exact ⟨zi, zdr⟩
def impl_sidesOf.l0 : Nat → Int → List Int → Int → Int → Option (Int)
  | 0, _, _, _, _ => none
  | k + 1, x3, x6, x7, x8 => if x8 < x7 then (if 0 ≤ x8 then (if x8 < (x6.length : Int) then (if 0 ≤ (rd x6 x8) then (impl_sidesOf.l0 k (Go.bits .or .u8 x3 (shl .u8 1 (rd x6 x8))) x6 x7 (wrap64 (x8 + 1))) else (none)) else (none)) else (none)) else (some x3)
def impl_sidesOf.f (k : Nat) (l0 : List Int) : Option (Int) := impl_sidesOf.l0 k 0 l0 (l0.length : Int) 0
theorem impl_sidesOf.mono_l : ∀ k, (∀ y0 y1 y2 y3, LeO (impl_sidesOf.l0 k y0 y1 y2 y3) (impl_sidesOf.l0 (k + 1) y0 y1 y2 y3))
  | 0 => fun _ _ _ _ r h => by simp [impl_sidesOf.l0] at h
  | k + 1 => by
    have ih0 := impl_sidesOf.mono_l k
    · intro y0 y1 y2 y3
      unfold impl_sidesOf.l0
      repeat' first | (with_reducible first | apply ih0 | exact LeO.refl _ | exact LeO.none _ | refine LeO.ite ?_ ?_ | refine LeO.bind ?_ (fun _ => ?_)) | apply ih0 | exact LeO.none _ | refine LeO.ite ?_ ?_ | refine LeO.bind ?_ (fun _ => ?_)
theorem impl_sidesOf.mono : ∀ a0 k, LeO (impl_sidesOf.f k a0) (impl_sidesOf.f (k + 1) a0) := by
 intro a0 k
 have ih0 := impl_sidesOf.mono_l k
 unfold impl_sidesOf.f
 repeat' first | (with_reducible first | apply ih0 | exact LeO.refl _ | exact LeO.none _ | refine LeO.ite ?_ ?_ | refine LeO.bind ?_ (fun _ => ?_)) | apply ih0 | exact LeO.none _ | refine LeO.ite ?_ ?_ | refine LeO.bind ?_ (fun _ => ?_)
theorem impl_sidesOf.calls (k : Nat) (A0 : Option Addr) (c0 : Nat) (l0 : List Int) (r : Int) (w : World) (hr0 : Kd.C (Kd.int .i64) w A0 l0.length l0) (hc0 : l0.length ≤ c0) (h : impl_sidesOf.f k l0 = some r) :
    Calls Try.prog 38 #[.slice A0 l0.length c0] w fun e w' => e = .returned (.int .u8 r) ∧ Drawn0 w w' := by
 have HR0 := Aside0.mk hr0
 have HC0 := Aside0.mk hc0
 clear hr0 hc0
 have H : (impl_sidesOf.l0 k 0 l0 (l0.length : Int) 0) = some r := h
 clear h
 have H' := Aside0.mk H
 clear H
 go_enter Try.func38, Try.ntmps38
 go_wp2
 go_loopg [3, 8] k (fun kq v3 v8 w' => ∃ (x3_1 : Int) (x8_1 : Int), v3 = .int .u8 x3_1 ∧ v8 = .int .i64 x8_1 ∧ Aside0 (impl_sidesOf.l0 kq x3_1 l0 (l0.length : Int) x8_1 = some r) ∧ Aside0 (kq ≤ k) ∧ Drawn0 w w')
 case atStart => exact ⟨(0), (0), zi, zi, H', ⟨Nat.le_refl _⟩, zdr⟩
 clear H'
 obtain ⟨x3_1, x8_1, rfl, rfl, HA, HK1, ⟨m1, rfl⟩⟩ := hrel
 cases gk with
 | zero => exact absurd HA.out (by simp [impl_sidesOf.l0])
 | succ k1 => ?_
 have H := HA.out
 clear HA
 simp only [impl_sidesOf.l0] at H
 by_cases c2 : x8_1 < (l0.length : Int)
 rotate_left
 ·rw [if_neg c2] at H
  have c2b0 : decide (x8_1 < (l0.length : Int)) = false := decide_eq_false c2
  clear c2
  obtain rfl := Option.some.inj H
  go_wp2
  go_ret
  exact ⟨zi, zdr⟩
 rw [if_pos c2] at H
 have c2b0 : decide (x8_1 < (l0.length : Int)) = true := decide_eq_true c2
 clear c2
 by_cases c3 : 0 ≤ x8_1
 rotate_left
 ·rw [if_neg c3] at H
  exact absurd H (by simp)
 rw [if_pos c3] at H
 have c3b0 : decide (0 ≤ x8_1) = true := decide_eq_true c3
 clear c3
 by_cases c4 : x8_1 < (l0.length : Int)
 rotate_left
 ·rw [if_neg c4] at H
  exact absurd H (by simp)
 rw [if_pos c4] at H
 have c4b0 : decide (x8_1 < (l0.length : Int)) = true := decide_eq_true c4
 clear c4
 by_cases c5 : 0 ≤ (rd l0 x8_1)
 rotate_left
 ·rw [if_neg c5] at H
  exact absurd H (by simp)
 rw [if_pos c5] at H
 have c5b0 := eq_true c5
 have c5b1 : decide (0 ≤ (rd l0 x8_1)) = true := decide_eq_true c5
 clear c5
 obtain ⟨ji6, hji6⟩ : ∃ j_ : Int, (shl .u8 1 (rd l0 x8_1)) = j_ := ⟨_, rfl⟩
 replace H : (impl_sidesOf.l0 k1 (Go.bits .or .u8 x3_1 (ji6)) l0 (l0.length : Int) (wrap64 (x8_1 + 1))) = some r := by first | (rw [hji6] at H; exact H) | (simp only [hji6] at H ⊢; exact H)
 have hji6_ : (IntKind.u8.wrap (1 * 2 ^ min (rd l0 x8_1).toNat 8)) = ji6 := hji6
 have hji6z : (rd l0 x8_1) ≤ 8 → (IntKind.u8.wrap (1 * 2 ^ (rd l0 x8_1).toNat)) = ji6 := shl_small hji6
 have hji6u : (IntKind.u8.wrap (2 ^ min (rd l0 x8_1).toNat 8)) = ji6 := by have h_ := hji6_; rw [Int.one_mul] at h_; exact h_
 have hji6v : (rd l0 x8_1) ≤ 8 → (IntKind.u8.wrap (2 ^ (rd l0 x8_1).toNat)) = ji6 := fun hle_ => by have h_ := hji6z hle_; rw [Int.one_mul] at h_; exact h_
 have H' := Aside0.mk H
 clear H
 have p188 : 0 ≤ (x8_1 : Int) := of_decide_eq_true zA
 have q188 : x8_1 < (l0.length : Int) := of_decide_eq_true zA
 obtain ⟨ad188, e188, hx188_0⟩ := Kd.at_int HR0.out x8_1 p188 q188
 cases e188
 replace p188 := eq_true p188
 replace q188 := eq_true q188
 go_wp2
 go_roundg k1
 case measure => have := HK1.out; omega
 case rel => exact ⟨(Go.bits .or .u8 x3_1 (ji6)), (wrap64 (x8_1 + 1)), (by first | rfl | (simp; done) | (simp only [← hji6] <;> (first | rfl | simp)) | (simp [*]; done) | (exact congrArg (Value.int .i64) (wrap_eq (by omega)))), zi, H', ⟨by have := HK1.out; omega⟩, zdr⟩
def impl_unturned.f (k : Nat) (a0 : Int) (a1 : Int) : Option (Bool × Int) := if a0 = 0 then ((impl_opposite.f a1).bind fun t189 => ((impl_sidesOf.f k (([t189] : List Int))).bind fun t193 => (some (((Int.tmod a1 2) == 1), t193)))) else (if a0 = 1 then (if a1 = 3 then ((impl_sidesOf.f k (([2] : List Int))).bind fun t197 => (some (true, t197))) else (if a1 = 2 then ((impl_sidesOf.f k (([3] : List Int))).bind fun t201 => (some (true, t201))) else (some (false, 0)))) else (if a0 = 2 then ((impl_sidesOf.f k (([0, 2, 3] : List Int))).bind fun t205 => ((impl_sidesOf.f k (([a1] : List Int))).bind fun t209 => (some ((a1 != 1), Go.bits .andNot .u8 t205 t209)))) else (if a0 = 3 then ((impl_sidesOf.f k (([1] : List Int))).bind fun t213 => (some ((a1 == 3), t213))) else (if a0 = 4 then (if (Int.tmod a1 2) = 0 then (some (true, 0)) else ((impl_opposite.f a1).bind fun t214 => ((impl_sidesOf.f k (([t214] : List Int))).bind fun t218 => (some (true, t218))))) else (if a0 = 5 then ((impl_opposite.f a1).bind fun t219 => ((impl_sidesOf.f k (([t219] : List Int))).bind fun t223 => (some (true, t223)))) else (some (false, 0)))))))
theorem impl_unturned.mono : ∀ a0 a1 k, LeO (impl_unturned.f k a0 a1) (impl_unturned.f (k + 1) a0 a1) := by
 intro a0 a1 k
 unfold impl_unturned.f
 repeat' first | (with_reducible first | apply impl_sidesOf.mono | exact LeO.refl _ | exact LeO.none _ | refine LeO.ite ?_ ?_ | refine LeO.bind ?_ (fun _ => ?_)) | apply impl_sidesOf.mono | exact LeO.none _ | refine LeO.ite ?_ ?_ | refine LeO.bind ?_ (fun _ => ?_)
theorem impl_unturned.calls (k : Nat) (a0 : Int) (a1 : Int) (r1 : Bool) (r2 : Int) (w : World) (h : impl_unturned.f k a0 a1 = some (r1, r2)) :
    Calls Try.prog 37 #[.int .i8 a0, .int .i64 a1] w fun e w' => e = .returned (.tuple #[.bool r1, .int .u8 r2]) ∧ Below w.heap.size w w' := by
 have HB := Aside0.mk (Below.refl w.heap.size w)
 have H : (if a0 = 0 then ((impl_opposite.f a1).bind fun t189 => ((impl_sidesOf.f k (([t189] : List Int))).bind fun t193 => (some (((Int.tmod a1 2) == 1), t193)))) else (if a0 = 1 then (if a1 = 3 then ((impl_sidesOf.f k (([2] : List Int))).bind fun t197 => (some (true, t197))) else (if a1 = 2 then ((impl_sidesOf.f k (([3] : List Int))).bind fun t201 => (some (true, t201))) else (some (false, 0)))) else (if a0 = 2 then ((impl_sidesOf.f k (([0, 2, 3] : List Int))).bind fun t205 => ((impl_sidesOf.f k (([a1] : List Int))).bind fun t209 => (some ((a1 != 1), Go.bits .andNot .u8 t205 t209)))) else (if a0 = 3 then ((impl_sidesOf.f k (([1] : List Int))).bind fun t213 => (some ((a1 == 3), t213))) else (if a0 = 4 then (if (Int.tmod a1 2) = 0 then (some (true, 0)) else ((impl_opposite.f a1).bind fun t214 => ((impl_sidesOf.f k (([t214] : List Int))).bind fun t218 => (some (true, t218))))) else (if a0 = 5 then ((impl_opposite.f a1).bind fun t219 => ((impl_sidesOf.f k (([t219] : List Int))).bind fun t223 => (some (true, t223)))) else (some (false, 0)))))))) = some (r1, r2) := h
 clear h
 by_cases c3 : a0 = 0
 ·rw [if_pos c3] at H
  have c3b0 : (a0 == 0) = true := beq_iff_eq.mpr c3
  have c3b1 : (a0 != 0) = false := bne_eq_false_iff_eq.mpr c3
  clear c3
  replace H := zob H
  obtain ⟨t189, A40, H⟩ := H
  replace H : ((impl_sidesOf.f k (([t189] : List Int))).bind fun t193 => (some (((Int.tmod a1 2) == 1), t193))) = some (r1, r2) := H
  have A4 := Aside0.mk A40
  clear A40
  obtain ⟨y190, hy190⟩ : ∃ y_ : List Int, y_ = (([t189] : List Int)) := ⟨_, rfl⟩
  replace H : ((impl_sidesOf.f k y190).bind fun t193 => (some (((Int.tmod a1 2) == 1), t193))) = some (r1, r2) := by first | (rw [hy190]; with_reducible exact H) | (have H2_ := (Option.bind_some _ _).symm.trans H; rw [hy190]; with_reducible exact H2_) | (have H2_ := (Option.bind_some _ _).symm.trans H; with_reducible exact H2_) | with_reducible exact H | (rw [hy190]; exact H) | exact H
  have Ny190 := Aside0.mk hy190
  clear hy190
  replace H := zob H
  obtain ⟨t193, A50, H⟩ := H
  replace H : (some (((Int.tmod a1 2) == 1), t193)) = some (r1, r2) := H
  have A5 := Aside0.mk A50
  clear A50
  simp only [Option.some.injEq, Prod.mk.injEq] at H
  obtain ⟨rfl, rfl⟩ := H
  go_enter Try.func37, Try.ntmps37
  go_wp2_with (first | ((with_reducible refine gate_callee (f := 33) rfl ?_); refine goesL_ (some 13) rfl rfl Try.func33 (by kernel_rfl) rfl #[.int .i64 a1] rfl zm ?_; (with_reducible refine (impl_opposite.calls a1 t189 _ A4.out).mono ?_); rintro e w' ⟨rfl, ⟨nd, rfl⟩⟩; refine ⟨_, rfl, ?_⟩) | ((with_reducible refine gate_dst (N := 14) rfl ?_); refine Kd.R_lit (Kd.int .i64) _ 3 ?hg (N := 14) ?hd (xs := ([t189] : List Int)) (inner := [.int .i64 t189]) (ok := fun _ => True) (okp := fun _ => True) ?hr ?hp (fun _ hk => hk) trivial (Below.refl _ _) (Nat.le_refl _) (by simp) ?_; (case hd => rfl); (case hg => rfl); (case hr => exact zgs); (case hp => exact (Reps.one (show Kd.M (Kd.int .i64) _ _ _ t189 [.int .i64 t189] from rfl) (Reps.none _ _))); intro v191 w6 ho7 hb hg_ hnew_; clear hg_ hnew_; (first | rw [← Ny190.out] at ho7 | (simp only [Int.reduceToNat] at ho7; rw [← Ny190.out] at ho7)); have n_ : _ ∧ _ := ⟨Aside0.mk (Kd.R_lower ho7 (zz HB)), zb HB hb⟩; clear HB; obtain ⟨HO192, HB⟩ := n_; clear hb ho7; obtain ⟨Ao8, co8, eo8⟩ := Kd.R_slice HO192.out; subst eo8) | ((with_reducible refine gate_callee (f := 38) rfl ?_); refine goesL_ (some 15) rfl rfl Try.func38 (by kernel_rfl) rfl #[.slice Ao8 y190.length co8] rfl zm ?_; (with_reducible refine (impl_sidesOf.calls k _ _ y190 t193 _ ?side1 ?side2 A5.out).mono ?_); (case side1 => exact zrc HO192); (case side2 => exact (Kd.R_reads' HO192.out).2.1); rintro e w' ⟨rfl, ⟨nd, rfl⟩⟩; refine ⟨_, rfl, ?_⟩))
  go_ret2
  exact ⟨zv, zbo⟩
 rw [if_neg c3] at H
 have c3b0 : (a0 == 0) = false := beq_eq_false_iff_ne.mpr c3
 have c3b1 : (a0 != 0) = true := bne_iff_ne.mpr c3
 by_cases c9 : a0 = 1
 ·rw [if_pos c9] at H
  have c9b0 : (a0 == 1) = true := beq_iff_eq.mpr c9
  have c9b1 : (a0 != 1) = false := bne_eq_false_iff_eq.mpr c9
  clear c9
  by_cases c10 : a1 = 3
  ·rw [if_pos c10] at H
   have c10b0 : (a1 == 3) = true := beq_iff_eq.mpr c10
   have c10b1 : (a1 != 3) = false := bne_eq_false_iff_eq.mpr c10
   clear c10
   obtain ⟨y194, hy194⟩ : ∃ y_ : List Int, y_ = (([2] : List Int)) := ⟨_, rfl⟩
   replace H : ((impl_sidesOf.f k y194).bind fun t197 => (some (true, t197))) = some (r1, r2) := by first | (rw [hy194]; with_reducible exact H) | (have H2_ := (Option.bind_some _ _).symm.trans H; rw [hy194]; with_reducible exact H2_) | (have H2_ := (Option.bind_some _ _).symm.trans H; with_reducible exact H2_) | with_reducible exact H | (rw [hy194]; exact H) | exact H
   have Ny194 := Aside0.mk hy194
   clear hy194
   replace H := zob H
   obtain ⟨t197, A110, H⟩ := H
   replace H : (some (true, t197)) = some (r1, r2) := H
   have A11 := Aside0.mk A110
   clear A110
   simp only [Option.some.injEq, Prod.mk.injEq] at H
   obtain ⟨rfl, rfl⟩ := H
   go_enter Try.func37, Try.ntmps37
   go_wp2_with (first | ((with_reducible refine gate_dst (N := 21) rfl ?_); refine Kd.R_lit (Kd.int .i64) _ 3 ?hg (N := 21) ?hd (xs := ([2] : List Int)) (inner := [.int .i64 2]) (ok := fun _ => True) (okp := fun _ => True) ?hr ?hp (fun _ hk => hk) trivial (Below.refl _ _) (Nat.le_refl _) (by simp) ?_; (case hd => rfl); (case hg => rfl); (case hr => exact zgs); (case hp => exact (Reps.one (show Kd.M (Kd.int .i64) _ _ _ 2 [.int .i64 2] from rfl) (Reps.none _ _))); intro v195 w12 ho13 hb hg_ hnew_; clear hg_ hnew_; (first | rw [← Ny194.out] at ho13 | (simp only [Int.reduceToNat] at ho13; rw [← Ny194.out] at ho13)); have n_ : _ ∧ _ := ⟨Aside0.mk (Kd.R_lower ho13 (zz HB)), zb HB hb⟩; clear HB; obtain ⟨HO196, HB⟩ := n_; clear hb ho13; obtain ⟨Ao14, co14, eo14⟩ := Kd.R_slice HO196.out; subst eo14) | ((with_reducible refine gate_callee (f := 38) rfl ?_); refine goesL_ (some 22) rfl rfl Try.func38 (by kernel_rfl) rfl #[.slice Ao14 y194.length co14] rfl zm ?_; (with_reducible refine (impl_sidesOf.calls k _ _ y194 t197 _ ?side1 ?side2 A11.out).mono ?_); (case side1 => exact zrc HO196); (case side2 => exact (Kd.R_reads' HO196.out).2.1); rintro e w' ⟨rfl, ⟨nd, rfl⟩⟩; refine ⟨_, rfl, ?_⟩))
   go_ret2
   exact ⟨zv, zbo⟩
  rw [if_neg c10] at H
  have c10b0 : (a1 == 3) = false := beq_eq_false_iff_ne.mpr c10
  have c10b1 : (a1 != 3) = true := bne_iff_ne.mpr c10
  by_cases c15 : a1 = 2
  rotate_left
  ·rw [if_neg c15] at H
   have c15b0 : (a1 == 2) = false := beq_eq_false_iff_ne.mpr c15
   have c15b1 : (a1 != 2) = true := bne_iff_ne.mpr c15
   simp only [Option.some.injEq, Prod.mk.injEq] at H
   obtain ⟨rfl, rfl⟩ := H
   go_enter Try.func37, Try.ntmps37
   go_wp2
   go_ret2
   exact ⟨zv, zbo⟩
  rw [if_pos c15] at H
  have c15b0 : (a1 == 2) = true := beq_iff_eq.mpr c15
  have c15b1 : (a1 != 2) = false := bne_eq_false_iff_eq.mpr c15
  clear c15
  obtain ⟨y198, hy198⟩ : ∃ y_ : List Int, y_ = (([3] : List Int)) := ⟨_, rfl⟩
  replace H : ((impl_sidesOf.f k y198).bind fun t201 => (some (true, t201))) = some (r1, r2) := by first | (rw [hy198]; with_reducible exact H) | (have H2_ := (Option.bind_some _ _).symm.trans H; rw [hy198]; with_reducible exact H2_) | (have H2_ := (Option.bind_some _ _).symm.trans H; with_reducible exact H2_) | with_reducible exact H | (rw [hy198]; exact H) | exact H
  have Ny198 := Aside0.mk hy198
  clear hy198
  replace H := zob H
  obtain ⟨t201, A160, H⟩ := H
  replace H : (some (true, t201)) = some (r1, r2) := H
  have A16 := Aside0.mk A160
  clear A160
  simp only [Option.some.injEq, Prod.mk.injEq] at H
  obtain ⟨rfl, rfl⟩ := H
  go_enter Try.func37, Try.ntmps37
  go_wp2_with (first | ((with_reducible refine gate_dst (N := 25) rfl ?_); refine Kd.R_lit (Kd.int .i64) _ 3 ?hg (N := 25) ?hd (xs := ([3] : List Int)) (inner := [.int .i64 3]) (ok := fun _ => True) (okp := fun _ => True) ?hr ?hp (fun _ hk => hk) trivial (Below.refl _ _) (Nat.le_refl _) (by simp) ?_; (case hd => rfl); (case hg => rfl); (case hr => exact zgs); (case hp => exact (Reps.one (show Kd.M (Kd.int .i64) _ _ _ 3 [.int .i64 3] from rfl) (Reps.none _ _))); intro v199 w17 ho18 hb hg_ hnew_; clear hg_ hnew_; (first | rw [← Ny198.out] at ho18 | (simp only [Int.reduceToNat] at ho18; rw [← Ny198.out] at ho18)); have n_ : _ ∧ _ := ⟨Aside0.mk (Kd.R_lower ho18 (zz HB)), zb HB hb⟩; clear HB; obtain ⟨HO200, HB⟩ := n_; clear hb ho18; obtain ⟨Ao19, co19, eo19⟩ := Kd.R_slice HO200.out; subst eo19) | ((with_reducible refine gate_callee (f := 38) rfl ?_); refine goesL_ (some 26) rfl rfl Try.func38 (by kernel_rfl) rfl #[.slice Ao19 y198.length co19] rfl zm ?_; (with_reducible refine (impl_sidesOf.calls k _ _ y198 t201 _ ?side1 ?side2 A16.out).mono ?_); (case side1 => exact zrc HO200); (case side2 => exact (Kd.R_reads' HO200.out).2.1); rintro e w' ⟨rfl, ⟨nd, rfl⟩⟩; refine ⟨_, rfl, ?_⟩))
  go_ret2
  exact ⟨zv, zbo⟩
 rw [if_neg c9] at H
 have c9b0 : (a0 == 1) = false := beq_eq_false_iff_ne.mpr c9
 have c9b1 : (a0 != 1) = true := bne_iff_ne.mpr c9
 by_cases c20 : a0 = 2
 ·rw [if_pos c20] at H
  have c20b0 : (a0 == 2) = true := beq_iff_eq.mpr c20
  have c20b1 : (a0 != 2) = false := bne_eq_false_iff_eq.mpr c20
  clear c20
  obtain ⟨y202, hy202⟩ : ∃ y_ : List Int, y_ = (([0, 2, 3] : List Int)) := ⟨_, rfl⟩
  replace H : ((impl_sidesOf.f k y202).bind fun t205 => ((impl_sidesOf.f k (([a1] : List Int))).bind fun t209 => (some ((a1 != 1), Go.bits .andNot .u8 t205 t209)))) = some (r1, r2) := by first | (rw [hy202]; with_reducible exact H) | (have H2_ := (Option.bind_some _ _).symm.trans H; rw [hy202]; with_reducible exact H2_) | (have H2_ := (Option.bind_some _ _).symm.trans H; with_reducible exact H2_) | with_reducible exact H | (rw [hy202]; exact H) | exact H
  have Ny202 := Aside0.mk hy202
  clear hy202
  replace H := zob H
  obtain ⟨t205, A210, H⟩ := H
  replace H : ((impl_sidesOf.f k (([a1] : List Int))).bind fun t209 => (some ((a1 != 1), Go.bits .andNot .u8 t205 t209))) = some (r1, r2) := H
  have A21 := Aside0.mk A210
  clear A210
  obtain ⟨y206, hy206⟩ : ∃ y_ : List Int, y_ = (([a1] : List Int)) := ⟨_, rfl⟩
  replace H : ((impl_sidesOf.f k y206).bind fun t209 => (some ((a1 != 1), Go.bits .andNot .u8 t205 t209))) = some (r1, r2) := by first | (rw [hy206]; with_reducible exact H) | (have H2_ := (Option.bind_some _ _).symm.trans H; rw [hy206]; with_reducible exact H2_) | (have H2_ := (Option.bind_some _ _).symm.trans H; with_reducible exact H2_) | with_reducible exact H | (rw [hy206]; exact H) | exact H
  have Ny206 := Aside0.mk hy206
  clear hy206
  replace H := zob H
  obtain ⟨t209, A220, H⟩ := H
  replace H : (some ((a1 != 1), Go.bits .andNot .u8 t205 t209)) = some (r1, r2) := H
  have A22 := Aside0.mk A220
  clear A220
  simp only [Option.some.injEq, Prod.mk.injEq] at H
  obtain ⟨rfl, rfl⟩ := H
  go_enter Try.func37, Try.ntmps37
  go_wp2_with (first | ((with_reducible refine gate_dst (N := 31) rfl ?_); refine Kd.R_lit (Kd.int .i64) _ 3 ?hg (N := 31) ?hd (xs := ([0, 2, 3] : List Int)) (inner := [.int .i64 0, .int .i64 2, .int .i64 3]) (ok := fun _ => True) (okp := fun _ => True) ?hr ?hp (fun _ hk => hk) trivial (Below.refl _ _) (Nat.le_refl _) (by simp) ?_; (case hd => rfl); (case hg => rfl); (case hr => exact zgs); (case hp => exact (Reps.one (show Kd.M (Kd.int .i64) _ _ _ 0 [.int .i64 0] from rfl) (Reps.one (show Kd.M (Kd.int .i64) _ _ _ 2 [.int .i64 2] from rfl) (Reps.one (show Kd.M (Kd.int .i64) _ _ _ 3 [.int .i64 3] from rfl) (Reps.none _ _))))); intro v203 w23 ho24 hb hg_ hnew_; clear hg_ hnew_; (first | rw [← Ny202.out] at ho24 | (simp only [Int.reduceToNat] at ho24; rw [← Ny202.out] at ho24)); have n_ : _ ∧ _ := ⟨Aside0.mk (Kd.R_lower ho24 (zz HB)), zb HB hb⟩; clear HB; obtain ⟨HO204, HB⟩ := n_; clear hb ho24; obtain ⟨Ao25, co25, eo25⟩ := Kd.R_slice HO204.out; subst eo25) | ((with_reducible refine gate_callee (f := 38) rfl ?_); refine goesL_ (some 32) rfl rfl Try.func38 (by kernel_rfl) rfl #[.slice Ao25 y202.length co25] rfl zm ?_; (with_reducible refine (impl_sidesOf.calls k _ _ y202 t205 _ ?side1 ?side2 A21.out).mono ?_); (case side1 => exact zrc HO204); (case side2 => exact (Kd.R_reads' HO204.out).2.1); rintro e w' ⟨rfl, ⟨nd, rfl⟩⟩; refine ⟨_, rfl, ?_⟩) | ((with_reducible refine gate_dst (N := 34) rfl ?_); refine Kd.R_lit (Kd.int .i64) _ 3 ?hg (N := 34) ?hd (xs := ([a1] : List Int)) (inner := [.int .i64 a1]) (ok := fun _ => True) (okp := fun _ => True) ?hr ?hp (fun _ hk => hk) trivial (Below.refl _ _) (Nat.le_refl _) (by simp) ?_; (case hd => rfl); (case hg => rfl); (case hr => exact zgs); (case hp => exact (Reps.one (show Kd.M (Kd.int .i64) _ _ _ a1 [.int .i64 a1] from rfl) (Reps.none _ _))); intro v207 w26 ho27 hb hg_ hnew_; clear hg_ hnew_; (first | rw [← Ny206.out] at ho27 | (simp only [Int.reduceToNat] at ho27; rw [← Ny206.out] at ho27)); have n_ : _ ∧ _ ∧ _ := ⟨Aside0.mk (Kd.R_elder' (ze HO204).out (Kd.R_base ho27) hb), Aside0.mk (Kd.R_lower (Kd.R_new' ho27 (Kd.R_lt (ze HO204).out)) (zz HB)), zb HB hb⟩; clear HO204 HB; obtain ⟨HO204, HO208, HB⟩ := n_; clear hb ho27; obtain ⟨Ao28, co28, eo28⟩ := Kd.R_slice HO208.out; subst eo28) | ((with_reducible refine gate_callee (f := 38) rfl ?_); refine goesL_ (some 35) rfl rfl Try.func38 (by kernel_rfl) rfl #[.slice Ao28 y206.length co28] rfl zm ?_; (with_reducible refine (impl_sidesOf.calls k _ _ y206 t209 _ ?side1 ?side2 A22.out).mono ?_); (case side1 => exact zrc HO208); (case side2 => exact (Kd.R_reads' HO208.out).2.1); rintro e w' ⟨rfl, ⟨nd, rfl⟩⟩; refine ⟨_, rfl, ?_⟩))
  go_ret2
  exact ⟨zv, zbo⟩
 rw [if_neg c20] at H
 have c20b0 : (a0 == 2) = false := beq_eq_false_iff_ne.mpr c20
 have c20b1 : (a0 != 2) = true := bne_iff_ne.mpr c20
 by_cases c29 : a0 = 3
 ·rw [if_pos c29] at H
  have c29b0 : (a0 == 3) = true := beq_iff_eq.mpr c29
  have c29b1 : (a0 != 3) = false := bne_eq_false_iff_eq.mpr c29
  clear c29
  obtain ⟨y210, hy210⟩ : ∃ y_ : List Int, y_ = (([1] : List Int)) := ⟨_, rfl⟩
  replace H : ((impl_sidesOf.f k y210).bind fun t213 => (some ((a1 == 3), t213))) = some (r1, r2) := by first | (rw [hy210]; with_reducible exact H) | (have H2_ := (Option.bind_some _ _).symm.trans H; rw [hy210]; with_reducible exact H2_) | (have H2_ := (Option.bind_some _ _).symm.trans H; with_reducible exact H2_) | with_reducible exact H | (rw [hy210]; exact H) | exact H
  have Ny210 := Aside0.mk hy210
  clear hy210
  replace H := zob H
  obtain ⟨t213, A300, H⟩ := H
  replace H : (some ((a1 == 3), t213)) = some (r1, r2) := H
  have A30 := Aside0.mk A300
  clear A300
  simp only [Option.some.injEq, Prod.mk.injEq] at H
  obtain ⟨rfl, rfl⟩ := H
  go_enter Try.func37, Try.ntmps37
  go_wp2_with (first | ((with_reducible refine gate_dst (N := 41) rfl ?_); refine Kd.R_lit (Kd.int .i64) _ 3 ?hg (N := 41) ?hd (xs := ([1] : List Int)) (inner := [.int .i64 1]) (ok := fun _ => True) (okp := fun _ => True) ?hr ?hp (fun _ hk => hk) trivial (Below.refl _ _) (Nat.le_refl _) (by simp) ?_; (case hd => rfl); (case hg => rfl); (case hr => exact zgs); (case hp => exact (Reps.one (show Kd.M (Kd.int .i64) _ _ _ 1 [.int .i64 1] from rfl) (Reps.none _ _))); intro v211 w31 ho32 hb hg_ hnew_; clear hg_ hnew_; (first | rw [← Ny210.out] at ho32 | (simp only [Int.reduceToNat] at ho32; rw [← Ny210.out] at ho32)); have n_ : _ ∧ _ := ⟨Aside0.mk (Kd.R_lower ho32 (zz HB)), zb HB hb⟩; clear HB; obtain ⟨HO212, HB⟩ := n_; clear hb ho32; obtain ⟨Ao33, co33, eo33⟩ := Kd.R_slice HO212.out; subst eo33) | ((with_reducible refine gate_callee (f := 38) rfl ?_); refine goesL_ (some 42) rfl rfl Try.func38 (by kernel_rfl) rfl #[.slice Ao33 y210.length co33] rfl zm ?_; (with_reducible refine (impl_sidesOf.calls k _ _ y210 t213 _ ?side1 ?side2 A30.out).mono ?_); (case side1 => exact zrc HO212); (case side2 => exact (Kd.R_reads' HO212.out).2.1); rintro e w' ⟨rfl, ⟨nd, rfl⟩⟩; refine ⟨_, rfl, ?_⟩))
  go_ret2
  exact ⟨zv, zbo⟩
 rw [if_neg c29] at H
 have c29b0 : (a0 == 3) = false := beq_eq_false_iff_ne.mpr c29
 have c29b1 : (a0 != 3) = true := bne_iff_ne.mpr c29
 by_cases c34 : a0 = 4
 rotate_left
 ·rw [if_neg c34] at H
  have c34b0 : (a0 == 4) = false := beq_eq_false_iff_ne.mpr c34
  have c34b1 : (a0 != 4) = true := bne_iff_ne.mpr c34
  by_cases c41 : a0 = 5
  rotate_left
  ·rw [if_neg c41] at H
   have c41b0 : (a0 == 5) = false := beq_eq_false_iff_ne.mpr c41
   have c41b1 : (a0 != 5) = true := bne_iff_ne.mpr c41
   simp only [Option.some.injEq, Prod.mk.injEq] at H
   obtain ⟨rfl, rfl⟩ := H
   go_enter Try.func37, Try.ntmps37
   go_wp2
   go_ret2
   exact ⟨zv, zbo⟩
  rw [if_pos c41] at H
  have c41b0 : (a0 == 5) = true := beq_iff_eq.mpr c41
  have c41b1 : (a0 != 5) = false := bne_eq_false_iff_eq.mpr c41
  clear c41
  replace H := zob H
  obtain ⟨t219, A420, H⟩ := H
  replace H : ((impl_sidesOf.f k (([t219] : List Int))).bind fun t223 => (some (true, t223))) = some (r1, r2) := H
  have A42 := Aside0.mk A420
  clear A420
  obtain ⟨y220, hy220⟩ : ∃ y_ : List Int, y_ = (([t219] : List Int)) := ⟨_, rfl⟩
  replace H : ((impl_sidesOf.f k y220).bind fun t223 => (some (true, t223))) = some (r1, r2) := by first | (rw [hy220]; with_reducible exact H) | (have H2_ := (Option.bind_some _ _).symm.trans H; rw [hy220]; with_reducible exact H2_) | (have H2_ := (Option.bind_some _ _).symm.trans H; with_reducible exact H2_) | with_reducible exact H | (rw [hy220]; exact H) | exact H
  have Ny220 := Aside0.mk hy220
  clear hy220
  replace H := zob H
  obtain ⟨t223, A430, H⟩ := H
  replace H : (some (true, t223)) = some (r1, r2) := H
  have A43 := Aside0.mk A430
  clear A430
  simp only [Option.some.injEq, Prod.mk.injEq] at H
  obtain ⟨rfl, rfl⟩ := H
  go_enter Try.func37, Try.ntmps37
  go_wp2_with (first | ((with_reducible refine gate_callee (f := 33) rfl ?_); refine goesL_ (some 55) rfl rfl Try.func33 (by kernel_rfl) rfl #[.int .i64 a1] rfl zm ?_; (with_reducible refine (impl_opposite.calls a1 t219 _ A42.out).mono ?_); rintro e w' ⟨rfl, ⟨nd, rfl⟩⟩; refine ⟨_, rfl, ?_⟩) | ((with_reducible refine gate_dst (N := 56) rfl ?_); refine Kd.R_lit (Kd.int .i64) _ 3 ?hg (N := 56) ?hd (xs := ([t219] : List Int)) (inner := [.int .i64 t219]) (ok := fun _ => True) (okp := fun _ => True) ?hr ?hp (fun _ hk => hk) trivial (Below.refl _ _) (Nat.le_refl _) (by simp) ?_; (case hd => rfl); (case hg => rfl); (case hr => exact zgs); (case hp => exact (Reps.one (show Kd.M (Kd.int .i64) _ _ _ t219 [.int .i64 t219] from rfl) (Reps.none _ _))); intro v221 w44 ho45 hb hg_ hnew_; clear hg_ hnew_; (first | rw [← Ny220.out] at ho45 | (simp only [Int.reduceToNat] at ho45; rw [← Ny220.out] at ho45)); have n_ : _ ∧ _ := ⟨Aside0.mk (Kd.R_lower ho45 (zz HB)), zb HB hb⟩; clear HB; obtain ⟨HO222, HB⟩ := n_; clear hb ho45; obtain ⟨Ao46, co46, eo46⟩ := Kd.R_slice HO222.out; subst eo46) | ((with_reducible refine gate_callee (f := 38) rfl ?_); refine goesL_ (some 57) rfl rfl Try.func38 (by kernel_rfl) rfl #[.slice Ao46 y220.length co46] rfl zm ?_; (with_reducible refine (impl_sidesOf.calls k _ _ y220 t223 _ ?side1 ?side2 A43.out).mono ?_); (case side1 => exact zrc HO222); (case side2 => exact (Kd.R_reads' HO222.out).2.1); rintro e w' ⟨rfl, ⟨nd, rfl⟩⟩; refine ⟨_, rfl, ?_⟩))
  go_ret2
  exact ⟨zv, zbo⟩
 rw [if_pos c34] at H
 have c34b0 : (a0 == 4) = true := beq_iff_eq.mpr c34
 have c34b1 : (a0 != 4) = false := bne_eq_false_iff_eq.mpr c34
 clear c34
 by_cases c35 : (Int.tmod a1 2) = 0
 ·rw [if_pos c35] at H
  have c35b0 : ((Int.tmod a1 2) == 0) = true := beq_iff_eq.mpr c35
  have c35b1 : ((Int.tmod a1 2) != 0) = false := bne_eq_false_iff_eq.mpr c35
  clear c35
  simp only [Option.some.injEq, Prod.mk.injEq] at H
  obtain ⟨rfl, rfl⟩ := H
  go_enter Try.func37, Try.ntmps37
  go_wp2
  go_ret2
  exact ⟨zv, zbo⟩
 rw [if_neg c35] at H
 have c35b0 : ((Int.tmod a1 2) == 0) = false := beq_eq_false_iff_ne.mpr c35
 have c35b1 : ((Int.tmod a1 2) != 0) = true := bne_iff_ne.mpr c35
 replace H := zob H
 obtain ⟨t214, A360, H⟩ := H
 replace H : ((impl_sidesOf.f k (([t214] : List Int))).bind fun t218 => (some (true, t218))) = some (r1, r2) := H
 have A36 := Aside0.mk A360
 clear A360
 obtain ⟨y215, hy215⟩ : ∃ y_ : List Int, y_ = (([t214] : List Int)) := ⟨_, rfl⟩
 replace H : ((impl_sidesOf.f k y215).bind fun t218 => (some (true, t218))) = some (r1, r2) := by first | (rw [hy215]; with_reducible exact H) | (have H2_ := (Option.bind_some _ _).symm.trans H; rw [hy215]; with_reducible exact H2_) | (have H2_ := (Option.bind_some _ _).symm.trans H; with_reducible exact H2_) | with_reducible exact H | (rw [hy215]; exact H) | exact H
 have Ny215 := Aside0.mk hy215
 clear hy215
 replace H := zob H
 obtain ⟨t218, A370, H⟩ := H
 replace H : (some (true, t218)) = some (r1, r2) := H
 have A37 := Aside0.mk A370
 clear A370
 simp only [Option.some.injEq, Prod.mk.injEq] at H
 obtain ⟨rfl, rfl⟩ := H
 go_enter Try.func37, Try.ntmps37
 go_wp2_with (first | ((with_reducible refine gate_callee (f := 33) rfl ?_); refine goesL_ (some 49) rfl rfl Try.func33 (by kernel_rfl) rfl #[.int .i64 a1] rfl zm ?_; (with_reducible refine (impl_opposite.calls a1 t214 _ A36.out).mono ?_); rintro e w' ⟨rfl, ⟨nd, rfl⟩⟩; refine ⟨_, rfl, ?_⟩) | ((with_reducible refine gate_dst (N := 50) rfl ?_); refine Kd.R_lit (Kd.int .i64) _ 3 ?hg (N := 50) ?hd (xs := ([t214] : List Int)) (inner := [.int .i64 t214]) (ok := fun _ => True) (okp := fun _ => True) ?hr ?hp (fun _ hk => hk) trivial (Below.refl _ _) (Nat.le_refl _) (by simp) ?_; (case hd => rfl); (case hg => rfl); (case hr => exact zgs); (case hp => exact (Reps.one (show Kd.M (Kd.int .i64) _ _ _ t214 [.int .i64 t214] from rfl) (Reps.none _ _))); intro v216 w38 ho39 hb hg_ hnew_; clear hg_ hnew_; (first | rw [← Ny215.out] at ho39 | (simp only [Int.reduceToNat] at ho39; rw [← Ny215.out] at ho39)); have n_ : _ ∧ _ := ⟨Aside0.mk (Kd.R_lower ho39 (zz HB)), zb HB hb⟩; clear HB; obtain ⟨HO217, HB⟩ := n_; clear hb ho39; obtain ⟨Ao40, co40, eo40⟩ := Kd.R_slice HO217.out; subst eo40) | ((with_reducible refine gate_callee (f := 38) rfl ?_); refine goesL_ (some 51) rfl rfl Try.func38 (by kernel_rfl) rfl #[.slice Ao40 y215.length co40] rfl zm ?_; (with_reducible refine (impl_sidesOf.calls k _ _ y215 t218 _ ?side1 ?side2 A37.out).mono ?_); (case side1 => exact zrc HO217); (case side2 => exact (Kd.R_reads' HO217.out).2.1); rintro e w' ⟨rfl, ⟨nd, rfl⟩⟩; refine ⟨_, rfl, ?_⟩))
 go_ret2
 exact ⟨zv, zbo⟩
def impl_Piece_falls.l0 : Nat → Int → Int → Int → Int → Option (Bool × Int)
  | 0, _, _, _, _ => none
  | k + 1, x6, x8, x9, x27 => if x27 < 4 then ((impl_sides_has.f x8 x27).bind fun t227 => (if t227 = true then ((impl_sidesOf.f k (([Int.tmod (wrap64 (x27 + x6)) 4] : List Int))).bind fun t231 => (impl_Piece_falls.l0 k x6 x8 (Go.bits .or .u8 x9 t231) (wrap64 (x27 + 1)))) else (impl_Piece_falls.l0 k x6 x8 x9 (wrap64 (x27 + 1))))) else (some (true, x9))
def impl_Piece_falls.f (k : Nat) (a0_0 : Int) (a0_1 : Int) (a0_2 : Int) (a0_3 : Int) (a0_4 : Int) (a1 : Int) : Option (Bool × Int) := (impl_unturned.f k a0_2 (Int.tmod (wrap64 ((wrap64 (a1 - (wrap64 (a0_3)))) + 4)) 4)).bind fun bt225 => (if bt225.1 = true then (impl_Piece_falls.l0 k (wrap64 (a0_3)) bt225.2 0 0) else (some (false, 0)))
theorem impl_Piece_falls.mono_l : ∀ k, (∀ y0 y1 y2 y3, LeO (impl_Piece_falls.l0 k y0 y1 y2 y3) (impl_Piece_falls.l0 (k + 1) y0 y1 y2 y3))
  | 0 => fun _ _ _ _ r h => by simp [impl_Piece_falls.l0] at h
  | k + 1 => by
    have ih0 := impl_Piece_falls.mono_l k
    · intro y0 y1 y2 y3
      unfold impl_Piece_falls.l0
      repeat' first | (with_reducible first | apply ih0 | apply impl_sidesOf.mono | apply impl_unturned.mono | exact LeO.refl _ | exact LeO.none _ | refine LeO.ite ?_ ?_ | refine LeO.bind ?_ (fun _ => ?_)) | apply ih0 | apply impl_sidesOf.mono | apply impl_unturned.mono | exact LeO.none _ | refine LeO.ite ?_ ?_ | refine LeO.bind ?_ (fun _ => ?_)
theorem impl_Piece_falls.mono : ∀ a0 a1 a2 a3 a4 a5 k, LeO (impl_Piece_falls.f k a0 a1 a2 a3 a4 a5) (impl_Piece_falls.f (k + 1) a0 a1 a2 a3 a4 a5) := by
 intro a0 a1 a2 a3 a4 a5 k
 have ih0 := impl_Piece_falls.mono_l k
 unfold impl_Piece_falls.f
 repeat' first | (with_reducible first | apply ih0 | apply impl_sidesOf.mono | apply impl_unturned.mono | exact LeO.refl _ | exact LeO.none _ | refine LeO.ite ?_ ?_ | refine LeO.bind ?_ (fun _ => ?_)) | apply ih0 | apply impl_sidesOf.mono | apply impl_unturned.mono | exact LeO.none _ | refine LeO.ite ?_ ?_ | refine LeO.bind ?_ (fun _ => ?_)
theorem impl_Piece_falls.calls (k : Nat) (a0_0 : Int) (a0_1 : Int) (a0_2 : Int) (a0_3 : Int) (a0_4 : Int) (a1 : Int) (r1 : Bool) (r2 : Int) (w : World) (h : impl_Piece_falls.f k a0_0 a0_1 a0_2 a0_3 a0_4 a1 = some (r1, r2)) :
    Calls Try.prog 28 #[.agg #[.int .i8 a0_0, .int .i8 a0_1, .int .i8 a0_2, .int .i8 a0_3, .int .i8 a0_4], .int .i64 a1] w fun e w' => e = .returned (.tuple #[.bool r1, .int .u8 r2]) ∧ Below w.heap.size w w' := by
 have hu28 := Try.underlying28
 have HB := Aside0.mk (Below.refl w.heap.size w)
 have H : ((impl_unturned.f k a0_2 (Int.tmod (wrap64 ((wrap64 (a1 - (wrap64 (a0_3)))) + 4)) 4)).bind fun bt225 => (if bt225.1 = true then (impl_Piece_falls.l0 k (wrap64 (a0_3)) bt225.2 0 0) else (some (false, 0)))) = some (r1, r2) := h
 clear h
 replace H := zob H
 obtain ⟨⟨t225, t226⟩, A30, H⟩ := H
 replace H : (if t225 = true then (impl_Piece_falls.l0 k (wrap64 (a0_3)) t226 0 0) else (some (false, 0))) = some (r1, r2) := H
 have A3 := Aside0.mk A30
 clear A30
 by_cases c4 : t225 = true
 rotate_left
 ·replace c4 := Bool.eq_false_iff.mpr c4
  subst c4
  have H1 : (some (false, 0)) = some (r1, r2) := by rw [if_neg (show ¬ (false = true) by decide)] at H; exact H
  clear H
  have H := H1
  clear H1
  simp only [Option.some.injEq, Prod.mk.injEq] at H
  obtain ⟨rfl, rfl⟩ := H
  go_enter Try.func28, Try.ntmps28
  go_wp2_with (first | ((with_reducible refine gate_dst (N := 2) rfl ?_); refine zbx 2 #[.int .i8 a0_0, .int .i8 a0_1, .int .i8 a0_2, .int .i8 a0_3, .int .i8 a0_4] 28 ?_; intro gb224 hg w15 hbox hb; have n_ : _ ∧ _ ∧ _ ∧ _ := ⟨zb HB hb, Aside0.mk (hbox), zg HB hg, zg HB hg⟩; clear HB; obtain ⟨HB, BK224, GW224, GE224⟩ := n_; clear hb hbox hg; obtain ⟨z16_0, z16_1, z16_2, z16_3, z16_4, y16_0, y16_1, y16_2, y16_3, y16_4⟩ := zB5 BK224) | ((with_reducible refine gate_callee (f := 37) rfl ?_); refine goesL_ (some 22) rfl rfl Try.func37 (by kernel_rfl) rfl #[.int .i8 a0_2, .int .i64 (Int.tmod (wrap64 ((wrap64 (a1 - (wrap64 (a0_3)))) + 4)) 4)] rfl zm ?_; (with_reducible refine (impl_unturned.calls k a0_2 (Int.tmod (wrap64 ((wrap64 (a1 - (wrap64 (a0_3)))) + 4)) 4) false t226 _ A3.out).mono ?_); rintro e w17 ⟨rfl, hb⟩; refine ⟨_, rfl, ?_⟩; have n_ : _ ∧ _ := ⟨zk BK224 hb, zbs hb⟩; clear BK224 HB; obtain ⟨BK224, HB⟩ := n_; (try clear hb); (try clear hb2); (try clear hk); (try clear hi)))
  go_ret2
  exact ⟨zv, zbo⟩
 subst c4
 have H1 : (impl_Piece_falls.l0 k (wrap64 (a0_3)) t226 0 0) = some (r1, r2) := by rw [if_pos rfl] at H; exact H
 clear H
 have H := H1
 clear H1
 have H' := Aside0.mk H
 clear H
 go_enter Try.func28, Try.ntmps28
 go_wp2_with (first | ((with_reducible refine gate_dst (N := 2) rfl ?_); refine zbx 2 #[.int .i8 a0_0, .int .i8 a0_1, .int .i8 a0_2, .int .i8 a0_3, .int .i8 a0_4] 28 ?_; intro gb224 hg w5 hbox hb; have n_ : _ ∧ _ ∧ _ ∧ _ := ⟨zb HB hb, Aside0.mk (hbox), zg HB hg, zg HB hg⟩; clear HB; obtain ⟨HB, BK224, GW224, GE224⟩ := n_; clear hb hbox hg; obtain ⟨z6_0, z6_1, z6_2, z6_3, z6_4, y6_0, y6_1, y6_2, y6_3, y6_4⟩ := zB5 BK224) | ((with_reducible refine gate_callee (f := 37) rfl ?_); refine goesL_ (some 22) rfl rfl Try.func37 (by kernel_rfl) rfl #[.int .i8 a0_2, .int .i64 (Int.tmod (wrap64 ((wrap64 (a1 - (wrap64 (a0_3)))) + 4)) 4)] rfl zm ?_; (with_reducible refine (impl_unturned.calls k a0_2 (Int.tmod (wrap64 ((wrap64 (a1 - (wrap64 (a0_3)))) + 4)) 4) true t226 _ A3.out).mono ?_); rintro e w7 ⟨rfl, hb⟩; refine ⟨_, rfl, ?_⟩; have n_ : _ ∧ _ := ⟨zk BK224 hb, zbs hb⟩; clear BK224 HB; obtain ⟨BK224, HB⟩ := n_; (try clear hb); (try clear hb2); (try clear hk); (try clear hi)))
 go_loopg [9, 27] k (fun kq v9 v27 w' => ∃ (x9_1 : Int) (x27_1 : Int), v9 = .int .u8 x9_1 ∧ v27 = .int .i64 x27_1 ∧ Aside0 (impl_Piece_falls.l0 kq (wrap64 (a0_3)) t226 x9_1 x27_1 = some (r1, r2)) ∧ Aside0 (kq ≤ k) ∧ Aside0 (w'.heap[gb224]? = some (.cells #[.int .i8 a0_0, .int .i8 a0_1, .int .i8 a0_2, .int .i8 a0_3, .int .i8 a0_4] 28 (0, 0))) ∧ Aside0 (Below w.heap.size w w'))
 case atStart => exact ⟨(0), (0), zi, zi, H', ⟨Nat.le_refl _⟩, zh BK224, zba⟩
 clear H'
 try clear c2
 try clear p2
 try clear c3
 try clear c4
 try clear p6
 try clear z6_0 z6_1 z6_2 z6_3 z6_4 y6_0 y6_1 y6_2 y6_3 y6_4
 obtain ⟨x9_1, x27_1, rfl, rfl, HA, HK1, BK224, HB⟩ := hrel
 cases gk with
 | zero => exact absurd HA.out (by simp [impl_Piece_falls.l0])
 | succ k1 => ?_
 have H := HA.out
 clear HA
 simp only [impl_Piece_falls.l0] at H
 by_cases c8 : x27_1 < 4
 rotate_left
 ·rw [if_neg c8] at H
  have c8b0 : decide (x27_1 < 4) = false := decide_eq_false c8
  clear c8
  simp only [Option.some.injEq, Prod.mk.injEq] at H
  obtain ⟨rfl, rfl⟩ := H
  go_wp2
  go_ret2
  exact ⟨zv, zbo⟩
 rw [if_pos c8] at H
 have c8b0 : decide (x27_1 < 4) = true := decide_eq_true c8
 clear c8
 replace H := zob H
 obtain ⟨t227, A90, H⟩ := H
 replace H : (if t227 = true then ((impl_sidesOf.f k1 (([Int.tmod (wrap64 (x27_1 + (wrap64 (a0_3)))) 4] : List Int))).bind fun t231 => (impl_Piece_falls.l0 k1 (wrap64 (a0_3)) t226 (Go.bits .or .u8 x9_1 t231) (wrap64 (x27_1 + 1)))) else (impl_Piece_falls.l0 k1 (wrap64 (a0_3)) t226 x9_1 (wrap64 (x27_1 + 1)))) = some (r1, r2) := H
 have A9 := Aside0.mk A90
 clear A90
 by_cases c10 : t227 = true
 rotate_left
 ·replace c10 := Bool.eq_false_iff.mpr c10
  subst c10
  have H1 : (impl_Piece_falls.l0 k1 (wrap64 (a0_3)) t226 x9_1 (wrap64 (x27_1 + 1))) = some (r1, r2) := by rw [if_neg (show ¬ (false = true) by decide)] at H; exact H
  clear H
  have H := H1
  clear H1
  have H' := Aside0.mk H
  clear H
  go_wp2_with (first | ((with_reducible refine gate_callee (f := 31) rfl ?_); refine goesL_ (some 32) rfl rfl Try.func31 (by kernel_rfl) rfl #[.int .u8 t226, .int .i64 x27_1] rfl zm ?_; (with_reducible refine (impl_sides_has.calls t226 x27_1 false _ A9.out).mono ?_); rintro e w' ⟨rfl, ⟨nd, rfl⟩⟩; refine ⟨_, rfl, ?_⟩))
  go_roundg k1
  case measure => have := HK1.out; omega
  case rel => exact ⟨(x9_1), (wrap64 (x27_1 + 1)), zi, zi, H', ⟨by have := HK1.out; omega⟩, zh BK224, zba⟩
 subst c10
 have H1 : ((impl_sidesOf.f k1 (([Int.tmod (wrap64 (x27_1 + (wrap64 (a0_3)))) 4] : List Int))).bind fun t231 => (impl_Piece_falls.l0 k1 (wrap64 (a0_3)) t226 (Go.bits .or .u8 x9_1 t231) (wrap64 (x27_1 + 1)))) = some (r1, r2) := by rw [if_pos rfl] at H; exact H
 clear H
 have H := H1
 clear H1
 obtain ⟨y228, hy228⟩ : ∃ y_ : List Int, y_ = (([Int.tmod (wrap64 (x27_1 + (wrap64 (a0_3)))) 4] : List Int)) := ⟨_, rfl⟩
 replace H : ((impl_sidesOf.f k1 y228).bind fun t231 => (impl_Piece_falls.l0 k1 (wrap64 (a0_3)) t226 (Go.bits .or .u8 x9_1 t231) (wrap64 (x27_1 + 1)))) = some (r1, r2) := by first | (rw [hy228]; with_reducible exact H) | (have H2_ := (Option.bind_some _ _).symm.trans H; rw [hy228]; with_reducible exact H2_) | (have H2_ := (Option.bind_some _ _).symm.trans H; with_reducible exact H2_) | with_reducible exact H | (rw [hy228]; exact H) | exact H
 have Ny228 := Aside0.mk hy228
 clear hy228
 replace H := zob H
 obtain ⟨t231, A110, H⟩ := H
 replace H : (impl_Piece_falls.l0 k1 (wrap64 (a0_3)) t226 (Go.bits .or .u8 x9_1 t231) (wrap64 (x27_1 + 1))) = some (r1, r2) := H
 have A11 := Aside0.mk A110
 clear A110
 have H' := Aside0.mk H
 clear H
 go_wp2_with (first | ((with_reducible refine gate_callee (f := 31) rfl ?_); refine goesL_ (some 32) rfl rfl Try.func31 (by kernel_rfl) rfl #[.int .u8 t226, .int .i64 x27_1] rfl zm ?_; (with_reducible refine (impl_sides_has.calls t226 x27_1 true _ A9.out).mono ?_); rintro e w' ⟨rfl, ⟨nd, rfl⟩⟩; refine ⟨_, rfl, ?_⟩) | ((with_reducible refine gate_dst (N := 38) rfl ?_); refine Kd.R_lit (Kd.int .i64) _ 3 ?hg (N := 38) ?hd (xs := ([Int.tmod (wrap64 (x27_1 + (wrap64 (a0_3)))) 4] : List Int)) (inner := [.int .i64 (Int.tmod (wrap64 (x27_1 + (wrap64 (a0_3)))) 4)]) (ok := fun _ => True) (okp := fun _ => True) ?hr ?hp (fun _ hk => hk) trivial (Below.refl _ _) (Nat.le_refl _) (by simp) ?_; (case hd => rfl); (case hg => rfl); (case hr => exact zgs); (case hp => exact (Reps.one (show Kd.M (Kd.int .i64) _ _ _ (Int.tmod (wrap64 (x27_1 + (wrap64 (a0_3)))) 4) [.int .i64 (Int.tmod (wrap64 (x27_1 + (wrap64 (a0_3)))) 4)] from rfl) (Reps.none _ _))); intro v229 w12 ho13 hb hg_ hnew_; clear hg_ hnew_; (first | rw [← Ny228.out] at ho13 | (simp only [Int.reduceToNat] at ho13; rw [← Ny228.out] at ho13)); have n_ : _ ∧ _ ∧ _ := ⟨Aside0.mk (Kd.R_lower ho13 (zz HB)), zk BK224 hb, zbs hb⟩; clear BK224 HB; obtain ⟨HO230, BK224, HB⟩ := n_; clear hb ho13; obtain ⟨Ao14, co14, eo14⟩ := Kd.R_slice HO230.out; subst eo14) | ((with_reducible refine gate_callee (f := 38) rfl ?_); refine goesL_ (some 39) rfl rfl Try.func38 (by kernel_rfl) rfl #[.slice Ao14 y228.length co14] rfl zm ?_; (with_reducible refine (impl_sidesOf.calls k1 _ _ y228 t231 _ ?side1 ?side2 A11.out).mono ?_); (case side1 => exact zrc HO230); (case side2 => exact (Kd.R_reads' HO230.out).2.1); rintro e w' ⟨rfl, ⟨nd, rfl⟩⟩; refine ⟨_, rfl, ?_⟩))
 go_roundg k1
 case measure => have := HK1.out; omega
 case rel => exact ⟨(Go.bits .or .u8 x9_1 t231), (wrap64 (x27_1 + 1)), zi, zi, H', ⟨by have := HK1.out; omega⟩, zh BK224, zba⟩
def impl_FallsFrom.f (k : Nat) (a0_0 : Int) (a0_1 : Int) (a0_2 : Int) (a0_3 : Int) (a0_4 : Int) (a1 : Int) : Option (Bool × Int) := (impl_pieceOk.f a0_0 a0_1 a0_2 a0_3 a0_4 a1).bind fun t233 => (if t233 = 0 then ((impl_Piece_falls.f k a0_0 a0_1 a0_2 a0_3 a0_4 a1).bind fun bt234 => (some (bt234.1, 0))) else (some (false, t233)))
theorem impl_FallsFrom.mono : ∀ a0 a1 a2 a3 a4 a5 k, LeO (impl_FallsFrom.f k a0 a1 a2 a3 a4 a5) (impl_FallsFrom.f (k + 1) a0 a1 a2 a3 a4 a5) := by
 intro a0 a1 a2 a3 a4 a5 k
 unfold impl_FallsFrom.f
 repeat' first | (with_reducible first | apply impl_Piece_falls.mono | exact LeO.refl _ | exact LeO.none _ | refine LeO.ite ?_ ?_ | refine LeO.bind ?_ (fun _ => ?_)) | apply impl_Piece_falls.mono | exact LeO.none _ | refine LeO.ite ?_ ?_ | refine LeO.bind ?_ (fun _ => ?_)
theorem impl_FallsFrom.calls (k : Nat) (a0_0 : Int) (a0_1 : Int) (a0_2 : Int) (a0_3 : Int) (a0_4 : Int) (a1 : Int) (r1 : Bool) (r2 : Int) (w : World) (h : impl_FallsFrom.f k a0_0 a0_1 a0_2 a0_3 a0_4 a1 = some (r1, r2)) :
    Calls Try.prog 10 #[.agg #[.int .i8 a0_0, .int .i8 a0_1, .int .i8 a0_2, .int .i8 a0_3, .int .i8 a0_4], .int .i64 a1] w fun e w' => e = .returned (.tuple #[.bool r1, .int .i64 r2]) ∧ Below w.heap.size w w' := by
 have hu28 := Try.underlying28
 have HB := Aside0.mk (Below.refl w.heap.size w)
 have H : ((impl_pieceOk.f a0_0 a0_1 a0_2 a0_3 a0_4 a1).bind fun t233 => (if t233 = 0 then ((impl_Piece_falls.f k a0_0 a0_1 a0_2 a0_3 a0_4 a1).bind fun bt234 => (some (bt234.1, 0))) else (some (false, t233)))) = some (r1, r2) := h
 clear h
 replace H := zob H
 obtain ⟨t233, A30, H⟩ := H
 replace H : (if t233 = 0 then ((impl_Piece_falls.f k a0_0 a0_1 a0_2 a0_3 a0_4 a1).bind fun bt234 => (some (bt234.1, 0))) else (some (false, t233))) = some (r1, r2) := H
 have A3 := Aside0.mk A30
 clear A30
 by_cases c4 : t233 = 0
 rotate_left
 ·rw [if_neg c4] at H
  have c4b0 : (t233 == 0) = false := beq_eq_false_iff_ne.mpr c4
  have c4b1 : (t233 != 0) = true := bne_iff_ne.mpr c4
  simp only [Option.some.injEq, Prod.mk.injEq] at H
  obtain ⟨rfl, rfl⟩ := H
  go_enter Try.func10, Try.ntmps10
  go_wp2_with (first | ((with_reducible refine gate_dst (N := 2) rfl ?_); refine zbx 2 #[.int .i8 a0_0, .int .i8 a0_1, .int .i8 a0_2, .int .i8 a0_3, .int .i8 a0_4] 28 ?_; intro gb232 hg w11 hbox hb; have n_ : _ ∧ _ ∧ _ ∧ _ := ⟨zb HB hb, Aside0.mk (hbox), zg HB hg, zg HB hg⟩; clear HB; obtain ⟨HB, BK232, GW232, GE232⟩ := n_; clear hb hbox hg; obtain ⟨z12_0, z12_1, z12_2, z12_3, z12_4, y12_0, y12_1, y12_2, y12_3, y12_4⟩ := zB5 BK232) | ((with_reducible refine gate_callee (f := 27) rfl ?_); refine goesL_ (some 11) rfl rfl Try.func27 (by kernel_rfl) rfl #[.agg #[.int .i8 a0_0, .int .i8 a0_1, .int .i8 a0_2, .int .i8 a0_3, .int .i8 a0_4], .int .i64 a1] rfl zm ?_; (with_reducible refine (impl_pieceOk.calls a0_0 a0_1 a0_2 a0_3 a0_4 a1 t233 _ A3.out).mono ?_); rintro e w13 ⟨rfl, hb⟩; refine ⟨_, rfl, ?_⟩; have n_ : _ ∧ _ := ⟨zk BK232 hb, zbs hb⟩; clear BK232 HB; obtain ⟨BK232, HB⟩ := n_; (try clear hb); (try clear hb2); (try clear hk); (try clear hi)))
  go_ret2
  exact ⟨zv, zbo⟩
 rw [if_pos c4] at H
 have c4b0 : (t233 == 0) = true := beq_iff_eq.mpr c4
 have c4b1 : (t233 != 0) = false := bne_eq_false_iff_eq.mpr c4
 clear c4
 replace H := zob H
 obtain ⟨⟨t234, t235⟩, A50, H⟩ := H
 replace H : (some (t234, 0)) = some (r1, r2) := H
 have A5 := Aside0.mk A50
 clear A50
 simp only [Option.some.injEq, Prod.mk.injEq] at H
 obtain ⟨rfl, rfl⟩ := H
 go_enter Try.func10, Try.ntmps10
 go_wp2_with (first | ((with_reducible refine gate_dst (N := 2) rfl ?_); refine zbx 2 #[.int .i8 a0_0, .int .i8 a0_1, .int .i8 a0_2, .int .i8 a0_3, .int .i8 a0_4] 28 ?_; intro gb232 hg w6 hbox hb; have n_ : _ ∧ _ ∧ _ ∧ _ := ⟨zb HB hb, Aside0.mk (hbox), zg HB hg, zg HB hg⟩; clear HB; obtain ⟨HB, BK232, GW232, GE232⟩ := n_; clear hb hbox hg; obtain ⟨z7_0, z7_1, z7_2, z7_3, z7_4, y7_0, y7_1, y7_2, y7_3, y7_4⟩ := zB5 BK232) | ((with_reducible refine gate_callee (f := 27) rfl ?_); refine goesL_ (some 11) rfl rfl Try.func27 (by kernel_rfl) rfl #[.agg #[.int .i8 a0_0, .int .i8 a0_1, .int .i8 a0_2, .int .i8 a0_3, .int .i8 a0_4], .int .i64 a1] rfl zm ?_; (with_reducible refine (impl_pieceOk.calls a0_0 a0_1 a0_2 a0_3 a0_4 a1 t233 _ A3.out).mono ?_); rintro e w8 ⟨rfl, hb⟩; refine ⟨_, rfl, ?_⟩; have n_ : _ ∧ _ := ⟨zk BK232 hb, zbs hb⟩; clear BK232 HB; obtain ⟨BK232, HB⟩ := n_; (try clear hb); (try clear hb2); (try clear hk); (try clear hi); obtain ⟨z9_0, z9_1, z9_2, z9_3, z9_4, y9_0, y9_1, y9_2, y9_3, y9_4⟩ := zB5 BK232) | ((with_reducible refine gate_callee (f := 28) rfl ?_); refine goesL_ (some 18) rfl rfl Try.func28 (by kernel_rfl) rfl #[.agg #[.int .i8 a0_0, .int .i8 a0_1, .int .i8 a0_2, .int .i8 a0_3, .int .i8 a0_4], .int .i64 a1] rfl zm ?_; (with_reducible refine (impl_Piece_falls.calls k a0_0 a0_1 a0_2 a0_3 a0_4 a1 t234 t235 _ A5.out).mono ?_); rintro e w10 ⟨rfl, hb⟩; refine ⟨_, rfl, ?_⟩; have n_ : _ ∧ _ := ⟨zk BK232 hb, zbs hb⟩; clear BK232 HB; obtain ⟨BK232, HB⟩ := n_; (try clear hb); (try clear hb2); (try clear hk); (try clear hi)))
 go_ret2
 exact ⟨zv, zbo⟩
def spec_l01Side.f (a0 : Int) : Option (Bool) := (spec_l00In.f a0 0 3).bind fun t236 => (some t236)
theorem spec_l01Side.calls (a0 : Int) (r : Bool) (w : World) (h : spec_l01Side.f a0 = some r) :
    Calls Try.prog 39 #[.int .i64 a0] w fun e w' => e = .returned (.bool r) ∧ Drawn0 w w' := by
 have H : ((spec_l00In.f a0 0 3).bind fun t236 => (some t236)) = some r := h
 clear h
 replace H := zob H
 obtain ⟨t236, A20, H⟩ := H
 replace H : (some t236) = some r := H
 have A2 := Aside0.mk A20
 clear A20
 obtain rfl := Option.some.inj H
 go_enter Try.func39, Try.ntmps39
 go_wp2_with (first | ((with_reducible refine gate_callee (f := 23) rfl ?_); refine goesL_ (some 4) rfl rfl Try.func23 (by kernel_rfl) rfl #[.int .i64 a0, .int .i64 0, .int .i64 3] rfl zm ?_; (with_reducible refine (spec_l00In.calls a0 0 3 t236 _ A2.out).mono ?_); rintro e w' ⟨rfl, ⟨nd, rfl⟩⟩; refine ⟨_, rfl, ?_⟩))
 go_ret
 exact ⟨zi, zdr⟩
def spec_l01Asked.f (l0 : List (S28)) (a1 : Int) : Option (Int) := (spec_l01Piece.f l0).bind fun t237 => (if t237 = true then ((spec_l01Side.f a1).bind fun t238 => (if t238 = true then (some 0) else (some 2))) else (some 1))
theorem spec_l01Asked.calls (adp0 : Addr) (l0 : List (S28)) (a1 : Int) (r : Int) (w : World) (hr0 : Kd.C k28 w (some adp0) l0.length l0) (h : spec_l01Asked.f l0 a1 = some r) :
    Calls Try.prog 29 #[.pointer (some adp0), .int .i64 a1] w fun e w' => e = .returned (.int .i64 r) ∧ Below w.heap.size w w' := by
 have HR0 := Aside0.mk hr0
 clear hr0
 have HB := Aside0.mk (Below.refl w.heap.size w)
 have H : ((spec_l01Piece.f l0).bind fun t237 => (if t237 = true then ((spec_l01Side.f a1).bind fun t238 => (if t238 = true then (some 0) else (some 2))) else (some 1))) = some r := h
 clear h
 replace H := zob H
 obtain ⟨t237, A30, H⟩ := H
 replace H : (if t237 = true then ((spec_l01Side.f a1).bind fun t238 => (if t238 = true then (some 0) else (some 2))) else (some 1)) = some r := H
 have A3 := Aside0.mk A30
 clear A30
 by_cases c4 : t237 = true
 rotate_left
 ·replace c4 := Bool.eq_false_iff.mpr c4
  subst c4
  have H1 : (some 1) = some r := by rw [if_neg (show ¬ (false = true) by decide)] at H; exact H
  clear H
  have H := H1
  clear H1
  obtain rfl := Option.some.inj H
  go_enter Try.func29, Try.ntmps29
  go_wp2_with (first | ((with_reducible refine gate_callee (f := 22) rfl ?_); refine goesL_ (some 6) rfl rfl Try.func22 (by kernel_rfl) rfl #[.pointer (some adp0)] rfl zm ?_; (with_reducible refine (spec_l01Piece.calls _ l0 false _ ?side1 A3.out).mono ?_); (case side1 => repeat (first | exact HR0.out | (with_reducible refine Kd.C_alloc ?_ _) | (with_reducible refine Kd.C_drewN ?_ _) | (with_reducible refine Kd.C_drew ?_))); rintro e w9 ⟨rfl, hb⟩; refine ⟨_, rfl, ?_⟩; have n0_ := zb HB hb; clear HB; have HB := n0_; clear n0_; (try clear hb); (try clear hb2); (try clear hk); (try clear hi)))
  go_ret
  exact ⟨zv, zbo⟩
 subst c4
 have H1 : ((spec_l01Side.f a1).bind fun t238 => (if t238 = true then (some 0) else (some 2))) = some r := by rw [if_pos rfl] at H; exact H
 clear H
 have H := H1
 clear H1
 replace H := zob H
 obtain ⟨t238, A50, H⟩ := H
 replace H : (if t238 = true then (some 0) else (some 2)) = some r := H
 have A5 := Aside0.mk A50
 clear A50
 by_cases c6 : t238 = true
 ·subst c6
  have H1 : (some 0) = some r := by rw [if_pos rfl] at H; exact H
  clear H
  have H := H1
  clear H1
  obtain rfl := Option.some.inj H
  go_enter Try.func29, Try.ntmps29
  go_wp2_with (first | ((with_reducible refine gate_callee (f := 22) rfl ?_); refine goesL_ (some 6) rfl rfl Try.func22 (by kernel_rfl) rfl #[.pointer (some adp0)] rfl zm ?_; (with_reducible refine (spec_l01Piece.calls _ l0 true _ ?side1 A3.out).mono ?_); (case side1 => repeat (first | exact HR0.out | (with_reducible refine Kd.C_alloc ?_ _) | (with_reducible refine Kd.C_drewN ?_ _) | (with_reducible refine Kd.C_drew ?_))); rintro e w7 ⟨rfl, hb⟩; refine ⟨_, rfl, ?_⟩; have n0_ := zb HB hb; clear HB; have HB := n0_; clear n0_; (try clear hb); (try clear hb2); (try clear hk); (try clear hi)) | ((with_reducible refine gate_callee (f := 39) rfl ?_); refine goesL_ (some 9) rfl rfl Try.func39 (by kernel_rfl) rfl #[.int .i64 a1] rfl zm ?_; (with_reducible refine (spec_l01Side.calls a1 true _ A5.out).mono ?_); rintro e w' ⟨rfl, ⟨nd, rfl⟩⟩; refine ⟨_, rfl, ?_⟩))
  go_ret
  exact ⟨zv, zbo⟩
 replace c6 := Bool.eq_false_iff.mpr c6
 subst c6
 have H1 : (some 2) = some r := by rw [if_neg (show ¬ (false = true) by decide)] at H; exact H
 clear H
 have H := H1
 clear H1
 obtain rfl := Option.some.inj H
 go_enter Try.func29, Try.ntmps29
 go_wp2_with (first | ((with_reducible refine gate_callee (f := 22) rfl ?_); refine goesL_ (some 6) rfl rfl Try.func22 (by kernel_rfl) rfl #[.pointer (some adp0)] rfl zm ?_; (with_reducible refine (spec_l01Piece.calls _ l0 true _ ?side1 A3.out).mono ?_); (case side1 => repeat (first | exact HR0.out | (with_reducible refine Kd.C_alloc ?_ _) | (with_reducible refine Kd.C_drewN ?_ _) | (with_reducible refine Kd.C_drew ?_))); rintro e w8 ⟨rfl, hb⟩; refine ⟨_, rfl, ?_⟩; have n0_ := zb HB hb; clear HB; have HB := n0_; clear n0_; (try clear hb); (try clear hb2); (try clear hk); (try clear hi)) | ((with_reducible refine gate_callee (f := 39) rfl ?_); refine goesL_ (some 9) rfl rfl Try.func39 (by kernel_rfl) rfl #[.int .i64 a1] rfl zm ?_; (with_reducible refine (spec_l01Side.calls a1 false _ A5.out).mono ?_); rintro e w' ⟨rfl, ⟨nd, rfl⟩⟩; refine ⟨_, rfl, ?_⟩))
 go_ret
 exact ⟨zv, zbo⟩
def spec_l01Table.f  : Option (Int × Int × Int × Int × Int × Int × Int × Int × Int × Int × Int × Int × Int × Int × Int × Int × Int × Int × Int × Int × Int × Int × Int × Int) := some ((-1), 8, (-1), 2, (-1), (-1), 8, 4, 12, (-1), 9, 5, (-1), (-1), (-1), 2, 0, 8, 0, 2, 4, 8, 1, 2)
theorem spec_l01Table.run (w : World) : Calls Try.prog 40 #[] w fun e w' => e = .returned (.agg #[.int .i64 (-1), .int .i64 8, .int .i64 (-1), .int .i64 2, .int .i64 (-1), .int .i64 (-1), .int .i64 8, .int .i64 4, .int .i64 12, .int .i64 (-1), .int .i64 9, .int .i64 5, .int .i64 (-1), .int .i64 (-1), .int .i64 (-1), .int .i64 2, .int .i64 0, .int .i64 8, .int .i64 0, .int .i64 2, .int .i64 4, .int .i64 8, .int .i64 1, .int .i64 2]) ∧ Below w.heap.size w w' := by
 have hi : (Try.prog.info? 70).map (·.size) = some 24 := by kernel_rfl
 have ld := run_loadCellsFrom_new (P := Try.prog) w 70 #[.int .i64 (-1), .int .i64 8, .int .i64 (-1), .int .i64 2, .int .i64 (-1), .int .i64 (-1), .int .i64 8, .int .i64 4, .int .i64 12, .int .i64 (-1), .int .i64 9, .int .i64 5, .int .i64 (-1), .int .i64 (-1), .int .i64 (-1), .int .i64 2, .int .i64 0, .int .i64 8, .int .i64 0, .int .i64 2, .int .i64 4, .int .i64 8, .int .i64 1, .int .i64 2] 24 rfl
 go_enter Try.func40, Try.ntmps40
 go_wp2_with (first | ((with_reducible refine gate_dst (N := 1) rfl ?_); refine Kd.event_run rfl (v := .agg #[.int .i64 (-1), .int .i64 8, .int .i64 (-1), .int .i64 2]) (by kernel_rfl) ?_) | ((with_reducible refine gate_dst (N := 2) rfl ?_); refine Kd.event_run rfl (v := .agg #[.int .i64 (-1), .int .i64 (-1), .int .i64 8, .int .i64 4]) (by kernel_rfl) ?_) | ((with_reducible refine gate_dst (N := 3) rfl ?_); refine Kd.event_run rfl (v := .agg #[.int .i64 12, .int .i64 (-1), .int .i64 9, .int .i64 5]) (by kernel_rfl) ?_) | ((with_reducible refine gate_dst (N := 4) rfl ?_); refine Kd.event_run rfl (v := .agg #[.int .i64 (-1), .int .i64 (-1), .int .i64 (-1), .int .i64 2]) (by kernel_rfl) ?_) | ((with_reducible refine gate_dst (N := 5) rfl ?_); refine Kd.event_run rfl (v := .agg #[.int .i64 0, .int .i64 8, .int .i64 0, .int .i64 2]) (by kernel_rfl) ?_) | ((with_reducible refine gate_dst (N := 6) rfl ?_); refine Kd.event_run rfl (v := .agg #[.int .i64 4, .int .i64 8, .int .i64 1, .int .i64 2]) (by kernel_rfl) ?_) | ((with_reducible refine gate_dst (N := 7) rfl ?_); refine Kd.event_run rfl (v := .agg #[.int .i64 (-1), .int .i64 8, .int .i64 (-1), .int .i64 2, .int .i64 (-1), .int .i64 (-1), .int .i64 8, .int .i64 4, .int .i64 12, .int .i64 (-1), .int .i64 9, .int .i64 5, .int .i64 (-1), .int .i64 (-1), .int .i64 (-1), .int .i64 2, .int .i64 0, .int .i64 8, .int .i64 0, .int .i64 2, .int .i64 4, .int .i64 8, .int .i64 1, .int .i64 2]) (by kernel_rfl) ?_) | (refine xstore_event (W0 := w) (c := #[.int .i64 0, .int .i64 0, .int .i64 0, .int .i64 0, .int .i64 0, .int .i64 0, .int .i64 0, .int .i64 0, .int .i64 0, .int .i64 0, .int .i64 0, .int .i64 0, .int .i64 0, .int .i64 0, .int .i64 0, .int .i64 0, .int .i64 0, .int .i64 0, .int .i64 0, .int .i64 0, .int .i64 0, .int .i64 0, .int .i64 0, .int .i64 0]) (c' := #[.int .i64 (-1), .int .i64 8, .int .i64 (-1), .int .i64 2, .int .i64 (-1), .int .i64 (-1), .int .i64 8, .int .i64 4, .int .i64 12, .int .i64 (-1), .int .i64 9, .int .i64 5, .int .i64 (-1), .int .i64 (-1), .int .i64 (-1), .int .i64 2, .int .i64 0, .int .i64 8, .int .i64 0, .int .i64 2, .int .i64 4, .int .i64 8, .int .i64 1, .int .i64 2]) rfl rfl rfl rfl hi rfl (by kernel_rfl) ?_))
 refine bodyPost_ret (results_cell_row rfl _ _ w.heap.size 70 #[.int .i64 (-1), .int .i64 8, .int .i64 (-1), .int .i64 2, .int .i64 (-1), .int .i64 (-1), .int .i64 8, .int .i64 4, .int .i64 12, .int .i64 (-1), .int .i64 9, .int .i64 5, .int .i64 (-1), .int .i64 (-1), .int .i64 (-1), .int .i64 2, .int .i64 0, .int .i64 8, .int .i64 0, .int .i64 2, .int .i64 4, .int .i64 8, .int .i64 1, .int .i64 2] (0, 0) _ rfl (blk_new w _) Try.underlying70 rfl (by kernel_rfl)) rfl ?_
 exact ⟨rfl, (Below.refl _ _).alloc (Nat.le_refl _) _⟩
theorem spec_l01Table.calls (r1 : Int) (r2 : Int) (r3 : Int) (r4 : Int) (r5 : Int) (r6 : Int) (r7 : Int) (r8 : Int) (r9 : Int) (r10 : Int) (r11 : Int) (r12 : Int) (r13 : Int) (r14 : Int) (r15 : Int) (r16 : Int) (r17 : Int) (r18 : Int) (r19 : Int) (r20 : Int) (r21 : Int) (r22 : Int) (r23 : Int) (r24 : Int) (w : World) (h : spec_l01Table.f  = some (r1, r2, r3, r4, r5, r6, r7, r8, r9, r10, r11, r12, r13, r14, r15, r16, r17, r18, r19, r20, r21, r22, r23, r24)) :
    Calls Try.prog 40 #[] w fun e w' => e = .returned (.agg #[.int .i64 r1, .int .i64 r2, .int .i64 r3, .int .i64 r4, .int .i64 r5, .int .i64 r6, .int .i64 r7, .int .i64 r8, .int .i64 r9, .int .i64 r10, .int .i64 r11, .int .i64 r12, .int .i64 r13, .int .i64 r14, .int .i64 r15, .int .i64 r16, .int .i64 r17, .int .i64 r18, .int .i64 r19, .int .i64 r20, .int .i64 r21, .int .i64 r22, .int .i64 r23, .int .i64 r24]) ∧ Below w.heap.size w w' := by
 have e : (((-1), 8, (-1), 2, (-1), (-1), 8, 4, 12, (-1), 9, 5, (-1), (-1), (-1), 2, 0, 8, 0, 2, 4, 8, 1, 2) : Int × Int × Int × Int × Int × Int × Int × Int × Int × Int × Int × Int × Int × Int × Int × Int × Int × Int × Int × Int × Int × Int × Int × Int) = (r1, r2, r3, r4, r5, r6, r7, r8, r9, r10, r11, r12, r13, r14, r15, r16, r17, r18, r19, r20, r21, r22, r23, r24) := Option.some.inj h
 clear h
 have e1 := congrArg Prod.fst e
 replace e := congrArg Prod.snd e
 dsimp only at e e1
 have e2 := congrArg Prod.fst e
 replace e := congrArg Prod.snd e
 dsimp only at e e2
 have e3 := congrArg Prod.fst e
 replace e := congrArg Prod.snd e
 dsimp only at e e3
 have e4 := congrArg Prod.fst e
 replace e := congrArg Prod.snd e
 dsimp only at e e4
 have e5 := congrArg Prod.fst e
 replace e := congrArg Prod.snd e
 dsimp only at e e5
 have e6 := congrArg Prod.fst e
 replace e := congrArg Prod.snd e
 dsimp only at e e6
 have e7 := congrArg Prod.fst e
 replace e := congrArg Prod.snd e
 dsimp only at e e7
 have e8 := congrArg Prod.fst e
 replace e := congrArg Prod.snd e
 dsimp only at e e8
 have e9 := congrArg Prod.fst e
 replace e := congrArg Prod.snd e
 dsimp only at e e9
 have e10 := congrArg Prod.fst e
 replace e := congrArg Prod.snd e
 dsimp only at e e10
 have e11 := congrArg Prod.fst e
 replace e := congrArg Prod.snd e
 dsimp only at e e11
 have e12 := congrArg Prod.fst e
 replace e := congrArg Prod.snd e
 dsimp only at e e12
 have e13 := congrArg Prod.fst e
 replace e := congrArg Prod.snd e
 dsimp only at e e13
 have e14 := congrArg Prod.fst e
 replace e := congrArg Prod.snd e
 dsimp only at e e14
 have e15 := congrArg Prod.fst e
 replace e := congrArg Prod.snd e
 dsimp only at e e15
 have e16 := congrArg Prod.fst e
 replace e := congrArg Prod.snd e
 dsimp only at e e16
 have e17 := congrArg Prod.fst e
 replace e := congrArg Prod.snd e
 dsimp only at e e17
 have e18 := congrArg Prod.fst e
 replace e := congrArg Prod.snd e
 dsimp only at e e18
 have e19 := congrArg Prod.fst e
 replace e := congrArg Prod.snd e
 dsimp only at e e19
 have e20 := congrArg Prod.fst e
 replace e := congrArg Prod.snd e
 dsimp only at e e20
 have e21 := congrArg Prod.fst e
 replace e := congrArg Prod.snd e
 dsimp only at e e21
 have e22 := congrArg Prod.fst e
 replace e := congrArg Prod.snd e
 dsimp only at e e22
 have e23 := congrArg Prod.fst e
 replace e := congrArg Prod.snd e
 dsimp only at e e23
 have e24 := e
 subst e1
 subst e2
 subst e3
 subst e4
 subst e5
 subst e6
 subst e7
 subst e8
 subst e9
 subst e10
 subst e11
 subst e12
 subst e13
 subst e14
 subst e15
 subst e16
 subst e17
 subst e18
 subst e19
 subst e20
 subst e21
 subst e22
 subst e23
 subst e24
 exact spec_l01Table.run w
end Go.Proofs.Ytjeejglobdgpjaa.PFnPieces
