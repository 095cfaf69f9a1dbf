-- WRITTEN by xprint.py, a program of this session's. Not trusted: Lean checks it.
-- packed by pack.py
import Derived.Test.YtffnfpnajkgnaaaPFnExactPushesForx0
import Derived.Test.YtffnfpnajkgnaaaPFnExactPushesForx17
import Derived.Test.YtffnfpnajkgnaaaTFnExactPushesFora
namespace Go.Proofs.Ytffnfpnajkgnaaa.PFnExactPushesFor
open Go.RowKit Go.Proofs.YtffnfpnajkgnaaaW.PrintWords Go.Proofs.YtffnfpnajkgnaaaW.PrintLast Go.Proofs.YtffnfpnajkgnaaaW.PrintMore Go.Proofs.YtffnfpnajkgnaaaX
attribute [local go_sem] max2_int min2_int max_two min_two max_three min_three max_four min_four   -- for this text's walks alone
set_option linter.unusedVariables false
set_option linter.unusedSimpArgs false

/-! ### laws_markCellS: function 95 -/
mutual
def laws_markCellS.l0 : Nat → List (S74) → Int → Int → Option (Int × (List (S74)))
  | 0, _, _, _ => none
  | k + 1, x0, x1, x5 => if x5 < (x0.length : Int) then (laws_markCellS.l1 k x0 x1 x5 0) else (some (x1, x0))
def laws_markCellS.l1 : Nat → List (S74) → Int → Int → Int → Option (Int × (List (S74)))
  | 0, _, _, _, _ => none
  | k + 1, x0, x1, x5, x6 => if x6 < 2 then (if 0 ≤ x5 then (if x5 < (x0.length : Int) then (if x6 = 0 then (laws_markCellS.l1 k (x0.set (x5 : Int).toNat (⟨IntKind.i8.wrap (x1), (rd_T74 x0 x5).f1⟩ : S74)) (wrap64 (x1 + 1)) x5 (wrap64 (x6 + 1))) else (if x6 = 1 then (laws_markCellS.l1 k (x0.set (x5 : Int).toNat (⟨(rd_T74 x0 x5).f0, IntKind.i8.wrap (x1)⟩ : S74)) (wrap64 (x1 + 1)) x5 (wrap64 (x6 + 1))) else (none))) else (none)) else (none)) else (laws_markCellS.l0 k x0 x1 (wrap64 (x5 + 1)))
end
def laws_markCellS.f (k : Nat) (l0 : List (S74)) (a1 : Int) : Option (Int × (List (S74))) := laws_markCellS.l0 k l0 a1 0
theorem laws_markCellS.mono_l : ∀ k, (∀ y0 y1 y2, LeO (laws_markCellS.l0 k y0 y1 y2) (laws_markCellS.l0 (k + 1) y0 y1 y2)) ∧ (∀ y0 y1 y2 y3, LeO (laws_markCellS.l1 k y0 y1 y2 y3) (laws_markCellS.l1 (k + 1) y0 y1 y2 y3))
  | 0 => ⟨fun _ _ _ r h => by simp [laws_markCellS.l0] at h, fun _ _ _ _ r h => by simp [laws_markCellS.l1] at h⟩
  | k + 1 => by
    obtain ⟨ih0, ih1⟩ := laws_markCellS.mono_l k
    refine ⟨?_, ?_⟩
    · intro y0 y1 y2
      unfold laws_markCellS.l0
      repeat' first | (with_reducible first | apply ih0 | apply ih1 | exact LeO.refl _ | exact LeO.none _ | refine LeO.ite ?_ ?_ | refine LeO.bind ?_ (fun _ => ?_)) | apply ih0 | apply ih1 | exact LeO.none _ | refine LeO.ite ?_ ?_ | refine LeO.bind ?_ (fun _ => ?_)
    · intro y0 y1 y2 y3
      unfold laws_markCellS.l1
      repeat' first | (with_reducible first | apply ih0 | apply ih1 | exact LeO.refl _ | exact LeO.none _ | refine LeO.ite ?_ ?_ | refine LeO.bind ?_ (fun _ => ?_)) | apply ih0 | apply ih1 | exact LeO.none _ | refine LeO.ite ?_ ?_ | refine LeO.bind ?_ (fun _ => ?_)
theorem laws_markCellS.mono : ∀ a0 a1 k, LeO (laws_markCellS.f k a0 a1) (laws_markCellS.f (k + 1) a0 a1) := by
 intro a0 a1 k
 obtain ⟨ih0, ih1⟩ := laws_markCellS.mono_l k
 unfold laws_markCellS.f
 repeat' first | (with_reducible first | apply ih0 | apply ih1 | exact LeO.refl _ | exact LeO.none _ | refine LeO.ite ?_ ?_ | refine LeO.bind ?_ (fun _ => ?_)) | apply ih0 | apply ih1 | exact LeO.none _ | refine LeO.ite ?_ ?_ | refine LeO.bind ?_ (fun _ => ?_)
set_option maxHeartbeats 8000000 in
set_option maxRecDepth 100000 in
theorem laws_markCellS.calls (k : Nat) (P0_ : Nat → Prop) (u9000_ : Value) (l0 : List (S74)) (a1 : Int) (r1 : Int) (r2 : List (S74)) (w0 w : World) (hB : Below w0.heap.size w0 w) (ho0 : Kd.R k74 74 w w0.heap.size P0_ u9000_ l0) (h : laws_markCellS.f k l0 a1 = some (r1, r2)) :
    Calls Try.prog 95 #[u9000_, .int .i64 a1] w fun e w' => e = .returned (.int .i64 r1) ∧ Kd.R k74 74 w' w0.heap.size (fun k_ => (P0_ k_ ∨ w.heap.size ≤ k_)) u9000_ r2 ∧ Below w0.heap.size w0 w' ∧ Kept w w' (fun k_ => P0_ k_) := by
 have HO0 := Aside0.mk (show Kd.R k74 74 w w0.heap.size (fun k_ => (P0_ k_ ∨ w.heap.size ≤ k_)) u9000_ l0 from Kd.R_mono ho0 (fun k_ hk => (.inl hk)))
 have HK := Aside0.mk (Kept.refl w (fun k_ => P0_ k_))
 have HW0 := Aside0.mk hB.size
 have HB := Aside0.mk hB
 clear hB
 have H : (laws_markCellS.l0 k l0 a1 0) = some (r1, r2) := h
 clear h
 have H' := Aside0.mk H
 clear H
 go_enter Try.func95, Try.ntmps95
 go_wp2
 go_loopg [1, 5] k (fun kq v1 v5 w' => ∃ (x0_1 : List (S74)) (x1_1 : Int) (x5_1 : Int), v1 = .int .i64 x1_1 ∧ v5 = .int .i64 x5_1 ∧ Aside0 (laws_markCellS.l0 kq x0_1 x1_1 x5_1 = some (r1, r2)) ∧ Aside0 (kq ≤ k) ∧ Aside0 (Kd.R k74 74 w' w0.heap.size (fun k_ => (P0_ k_ ∨ w.heap.size ≤ k_)) u9000_ x0_1) ∧ Aside0 (Kept w w' (fun k_ => P0_ k_)) ∧ Aside0 (Below w0.heap.size w0 w'))
 case atStart => exact ⟨(l0), (a1), (0), (by first | rfl | (simp; done) | (simp [*]; done) | (exact congrArg (Value.int .i64) (wrap_eq (by omega)))), (by first | rfl | (simp; done) | (simp [*]; done) | (exact congrArg (Value.int .i64) (wrap_eq (by omega)))), H', ⟨Nat.le_refl _⟩, ze HO0, ⟨by repeat (first | (with_reducible first | exact HK.out | apply Kept.alloc | apply Kept.drewN | apply Kept.drew) | exact HK.out)⟩, zl HB⟩
 clear H'
 try clear p2
 obtain ⟨x0_1, x1_1, x5_1, rfl, rfl, HA, HK1, HO_0, HK, HB⟩ := hrel
 cases gk with
 | zero => exact absurd HA.out (by simp [laws_markCellS.l0])
 | succ k1 => ?_
 have H := HA.out
 clear HA
 simp only [laws_markCellS.l0] at H
 by_cases c3 : x5_1 < (x0_1.length : Int)
 rotate_left
 ·rw [if_neg c3] at H
  have c3b0 : decide (x5_1 < (x0_1.length : Int)) = false := decide_eq_false c3
  clear c3
  simp only [Option.some.injEq, Prod.mk.injEq] at H
  obtain ⟨rfl, rfl⟩ := H
  obtain ⟨Ao17, co17, eo17⟩ := Kd.R_slice HO_0.out
  subst eo17
  go_wp2
  go_ret
  exact ⟨by first | rfl | (simp [errW_none, errW_some] <;> rfl) | (simp [*, errW_none, errW_some] <;> rfl), by (with_reducible repeat (first | apply Kd.R_alloc | apply Kd.R_drewN | apply Kd.R_drew)); exact HO_0.out, by repeat (first | (with_reducible first | exact HB.out | apply below_alloc | apply pw_below_drewN | apply below_drew1) | exact HB.out), by repeat (first | (with_reducible first | exact HK.out | apply Kept.alloc | apply Kept.drewN | apply Kept.drew) | exact HK.out)⟩
 rw [if_pos c3] at H
 have c3b0 : decide (x5_1 < (x0_1.length : Int)) = true := decide_eq_true c3
 clear c3
 have H' := Aside0.mk H
 clear H
 obtain ⟨Ao4, co4, eo4⟩ := Kd.R_slice HO_0.out
 subst eo4
 go_wp2
 go_loopg [1, 6] k1 (fun kq v1 v6 w' => ∃ (x0_2 : List (S74)) (x1_2 : Int) (x6_2 : Int), v1 = .int .i64 x1_2 ∧ v6 = .int .i64 x6_2 ∧ Aside0 (laws_markCellS.l1 kq x0_2 x1_2 x5_1 x6_2 = some (r1, r2)) ∧ Aside0 (kq ≤ k1) ∧ Aside0 (Kd.R k74 74 w' w0.heap.size (fun k_ => (P0_ k_ ∨ w.heap.size ≤ k_)) (.slice Ao4 x0_1.length co4) x0_2) ∧ Aside0 (Kept w w' (fun k_ => P0_ k_)) ∧ Aside0 (Below w0.heap.size w0 w'))
 case atStart => exact ⟨(x0_1), (x1_1), (0), (by first | rfl | (simp; done) | (simp [*]; done) | (exact congrArg (Value.int .i64) (wrap_eq (by omega)))), (by first | rfl | (simp; done) | (simp [*]; done) | (exact congrArg (Value.int .i64) (wrap_eq (by omega)))), H', ⟨Nat.le_refl _⟩, ze HO_0, ⟨by repeat (first | (with_reducible first | exact HK.out | apply Kept.alloc | apply Kept.drewN | apply Kept.drew) | exact HK.out)⟩, zl HB⟩
 clear H'
 try clear p2
 try clear c3
 try clear c3b0
 try clear p2
 obtain ⟨x0_2, x1_2, x6_2, rfl, rfl, HA, HK2, HO_0, HK, HB⟩ := hrel
 have hl0_2 := (Kd.R_reads' HO_0.out).1
 rw [hl0_2] at HO_0
 (try simp only [hl0_2])
 cases gk with
 | zero => exact absurd HA.out (by simp [laws_markCellS.l1])
 | succ k2 => ?_
 have H := HA.out
 clear HA
 simp only [laws_markCellS.l1] at H
 by_cases c5 : x6_2 < 2
 rotate_left
 ·rw [if_neg c5] at H
  have c5b0 : decide (x6_2 < 2) = false := decide_eq_false c5
  clear c5
  have H' := Aside0.mk H
  clear H
  go_wp2
  (try simp only [← hl0_2])
  go_roundg k2
  case measure => have := HK1.out; have := HK2.out; omega
  case rel => exact ⟨(x0_2), (x1_2), (wrap64 (x5_1 + 1)), (by first | rfl | (simp; done) | (simp [*]; done) | (exact congrArg (Value.int .i64) (wrap_eq (by omega)))), (by first | rfl | (simp; done) | (simp [*]; done) | (exact congrArg (Value.int .i64) (wrap_eq (by omega)))), H', ⟨by have := HK1.out; have := HK2.out; omega⟩, ⟨by (try simp only [hl0_2]); (with_reducible repeat (first | apply Kd.R_alloc | apply Kd.R_drewN | apply Kd.R_drew)); exact HO_0.out⟩, ⟨by repeat (first | (with_reducible first | exact HK.out | apply Kept.alloc | apply Kept.drewN | apply Kept.drew) | exact HK.out)⟩, zl HB⟩
 rw [if_pos c5] at H
 have c5b0 : decide (x6_2 < 2) = true := decide_eq_true c5
 clear c5
 by_cases c6 : 0 ≤ x5_1
 rotate_left
 ·rw [if_neg c6] at H
  exact absurd H (by simp)
 rw [if_pos c6] at H
 have c6b0 : decide (0 ≤ x5_1) = true := decide_eq_true c6
 clear c6
 by_cases c7 : x5_1 < (x0_2.length : Int)
 rotate_left
 ·rw [if_neg c7] at H
  exact absurd H (by simp)
 rw [if_pos c7] at H
 have c7b0 : decide (x5_1 < (x0_2.length : Int)) = true := decide_eq_true c7
 clear c7
 by_cases c9 : x6_2 = 0
 ·rw [if_pos c9] at H
  have Ac9 : Aside0 (x6_2 = 0) := ⟨c9⟩
  clear c9
  have ar10e : x6_2 = 0 := by first | exact (show Aside0 (x6_2 = 0) by assumption).out | exact beq_iff_eq.mp (by assumption) | omega
  have ar10n : (x6_2).toNat = 0 := by rw [ar10e]; rfl
  have ar10l : decide (0 ≤ x6_2) = true := decide_eq_true (by omega)
  have ar10L := eq_true (of_decide_eq_true ar10l)
  have ar10h : decide (x6_2 < 2) = true := decide_eq_true (by omega)
  have ar10H := eq_true (of_decide_eq_true ar10h)
  clear ar10e
  obtain ⟨y361, hy361⟩ : ∃ y_ : List (S74), y_ = (x0_2.set (x5_1 : Int).toNat (⟨IntKind.i8.wrap (x1_2), (rd_T74 x0_2 x5_1).f1⟩ : S74)) := ⟨_, rfl⟩
  replace H : (laws_markCellS.l1 k2 y361 (wrap64 (x1_2 + 1)) x5_1 (wrap64 (x6_2 + 1))) = some (r1, r2) := by first | (rw [hy361]; with_reducible exact H) | (have H2_ := (Option.bind_some _ _).symm.trans H; rw [hy361]; with_reducible exact H2_) | (have H2_ := (Option.bind_some _ _).symm.trans H; with_reducible exact H2_) | with_reducible exact H | (rw [hy361]; exact H) | exact H
  have Ny361 := Aside0.mk hy361
  clear hy361
  have H' := Aside0.mk H
  clear H
  have p8 : 0 ≤ (x5_1 : Int) := of_decide_eq_true (by first | (with_reducible assumption) | assumption)
  have q8 : (x5_1 : Int) < ((x0_2.length : Int) : Int) := of_decide_eq_true (by first | (with_reducible assumption) | assumption)
  obtain ⟨go8, co8, eo8, gb8, gl8, cl8, HG8⟩ := Kd.R_form HO_0.out (by omega)
  (first | cases eo8 | (injection eo8 with ea_ en_ ec_; (first | subst ea_ | (injection ea_ with ea_; subst ea_)); subst ec_; clear en_))
  have GB8 := Aside0.mk gb8
  have GG8 := Aside0.mk HG8
  clear gb8 gl8 HG8
  have HMgo8 := Aside0.mk (show (P0_ go8 ∨ w.heap.size ≤ go8) from (HO_0.out.1 _ rfl))
  obtain ⟨ce8, hcl8, hM8, hcc8, hfr8⟩ := Kd.R_elem HO_0.out z74 (x5_1 : Int) p8 q8
  obtain rfl := k74_openM hM8
  have hx8_0 : wr.cell? ⟨go8, (x5_1 : Int).toNat * 2, none⟩ = some (.int .i8 ((rd_T74 x0_2 x5_1).f0)) := hcc8 0 _ rfl
  have hx8_1 : wr.cell? ⟨go8, (x5_1 : Int).toNat * 2 + 1, none⟩ = some (.int .i8 ((rd_T74 x0_2 x5_1).f1)) := hcc8 1 _ rfl
  have hf8_0 : wr.frozen? ⟨go8, (x5_1 : Int).toNat * 2, none⟩ = false := hfr8 0
  have hf8_1 : wr.frozen? ⟨go8, (x5_1 : Int).toNat * 2 + 1, none⟩ = false := hfr8 1
  clear hcl8 hcc8 hfr8 hM8
  replace p8 := eq_true p8
  replace q8 := eq_true q8
  have HX11 := Aside0.mk (show Kd.R k74 74 wr w0.heap.size (fun k_ => (P0_ k_ ∨ w.heap.size ≤ k_)) (.slice (some ⟨go8, 0, none⟩) x0_2.length co4) x0_2 from (ze HO_0).out)
  obtain ⟨ce11, hcl11, hM11, hcc11, hfr11⟩ := Kd.R_elem HX11.out z74 (x5_1 : Int) (of_decide_eq_true (by first | (with_reducible assumption) | assumption)) (by have h_ : (x5_1 : Int) < ((x0_2.length : Int) : Int) := of_decide_eq_true (by first | (with_reducible assumption) | assumption); first | exact h_ | (have e_ := (Kd.R_reads' HO_0.out).1; omega) | simpa using h_)
  obtain rfl := k74_openM hM11
  have HP11 := Kd.R_seg HX11.out (x5_1 : Int) (of_decide_eq_true (by first | (with_reducible assumption) | assumption)) (by have h_ : (x5_1 : Int) < ((x0_2.length : Int) : Int) := of_decide_eq_true (by first | (with_reducible assumption) | assumption); first | exact h_ | (have e_ := (Kd.R_reads' HO_0.out).1; omega) | simpa using h_) (seg := [.int .i8 (IntKind.i8.wrap (x1_2))]) (j := 0) hcl11 hcc11 (show 1 ≤ 2 from by decide) (x' := (⟨IntKind.i8.wrap (x1_2), (rd_T74 x0_2 x5_1).f1⟩ : S74)) (k74_mkM _ _ _ (⟨IntKind.i8.wrap (x1_2), (rd_T74 x0_2 x5_1).f1⟩ : S74) ) (fun _ hk => hk)
  have hx11_0 := hcc11 0 _ rfl
  (try simp only [show (k74).sz = 2 from rfl, Nat.mul_one, Nat.add_zero] at hx11_0)
  have hf11_0 := hfr11 0
  (try simp only [show (k74).sz = 2 from rfl, Nat.mul_one, Nat.add_zero] at hf11_0)
  clear hcl11 hcc11 hfr11 hM11
  go_wp2_with (first | ((with_reducible refine gate_store (t := 22) (p := 23) rfl ?_); refine store_event (t := 22) (p := 23) (v := ?vo_w12) (w1 := (wr.setCell ⟨go8, (x5_1 : Int).toNat * 2, none⟩ (.int .i8 (IntKind.i8.wrap (x1_2))))) ?hg ?ho ?hn ?hr ?_; (case ho => rfl); (case hg => rfl); (case hn => rfl); (case hr => first | (go_simp; done) | (go_simp; rfl)); intro w12 hw; have hg : wr.grownBy w12 (some go8) := (by rw [hw]; exact HP11.2); have hp_ : Kd.R k74 74 w12 w0.heap.size (fun k_ => (P0_ k_ ∨ w.heap.size ≤ k_)) (.slice (some ⟨go8, 0, none⟩) x0_2.length co4) y361 := (by rw [hw, Ny361.out]; exact HP11.1); clear HP11; have n_ : _ ∧ _ ∧ _ := ⟨Aside0.mk (hp_), Aside0.mk ((by rw [hw]; exact below_set (HB.out) GB8.out : Below w0.heap.size w0 w12)), Aside0.mk (Kept.of_grown (S := (fun k_ => P0_ k_)) hg (by repeat (first | (with_reducible first | exact HK.out | apply Kept.alloc | apply Kept.drewN | apply Kept.drew) | exact HK.out)) (fun k_ e_ => (HO_0.out.1 k_ e_)))⟩; clear HO_0 HB HK; obtain ⟨HO_0, HB, HK⟩ := n_; clear hg hw hp_))
  (try simp only [← hl0_2])
  go_roundg k2
  case measure => have := HK1.out; have := HK2.out; omega
  case rel => exact ⟨(y361), (wrap64 (x1_2 + 1)), (wrap64 (x6_2 + 1)), (by first | rfl | (simp; done) | (simp [*]; done) | (exact congrArg (Value.int .i64) (wrap_eq (by omega)))), (by first | rfl | (simp; done) | (simp [*]; done) | (exact congrArg (Value.int .i64) (wrap_eq (by omega)))), H', ⟨by have := HK1.out; have := HK2.out; omega⟩, ⟨by (try simp only [hl0_2]); (with_reducible repeat (first | apply Kd.R_alloc | apply Kd.R_drewN | apply Kd.R_drew)); exact HO_0.out⟩, ⟨by repeat (first | (with_reducible first | exact HK.out | apply Kept.alloc | apply Kept.drewN | apply Kept.drew) | exact HK.out)⟩, zl HB⟩
 rw [if_neg c9] at H
 clear c9
 by_cases c13 : x6_2 = 1
 rotate_left
 ·rw [if_neg c13] at H
  exact absurd H (by simp)
 rw [if_pos c13] at H
 have Ac13 : Aside0 (x6_2 = 1) := ⟨c13⟩
 clear c13
 have ar14e : x6_2 = 1 := by first | exact (show Aside0 (x6_2 = 1) by assumption).out | exact beq_iff_eq.mp (by assumption) | omega
 have ar14n : (x6_2).toNat = 1 := by rw [ar14e]; rfl
 have ar14l : decide (0 ≤ x6_2) = true := decide_eq_true (by omega)
 have ar14L := eq_true (of_decide_eq_true ar14l)
 have ar14h : decide (x6_2 < 2) = true := decide_eq_true (by omega)
 have ar14H := eq_true (of_decide_eq_true ar14h)
 clear ar14e
 obtain ⟨y362, hy362⟩ : ∃ y_ : List (S74), y_ = (x0_2.set (x5_1 : Int).toNat (⟨(rd_T74 x0_2 x5_1).f0, IntKind.i8.wrap (x1_2)⟩ : S74)) := ⟨_, rfl⟩
 replace H : (laws_markCellS.l1 k2 y362 (wrap64 (x1_2 + 1)) x5_1 (wrap64 (x6_2 + 1))) = some (r1, r2) := by first | (rw [hy362]; with_reducible exact H) | (have H2_ := (Option.bind_some _ _).symm.trans H; rw [hy362]; with_reducible exact H2_) | (have H2_ := (Option.bind_some _ _).symm.trans H; with_reducible exact H2_) | with_reducible exact H | (rw [hy362]; exact H) | exact H
 have Ny362 := Aside0.mk hy362
 clear hy362
 have H' := Aside0.mk H
 clear H
 have p8 : 0 ≤ (x5_1 : Int) := of_decide_eq_true (by first | (with_reducible assumption) | assumption)
 have q8 : (x5_1 : Int) < ((x0_2.length : Int) : Int) := of_decide_eq_true (by first | (with_reducible assumption) | assumption)
 obtain ⟨go8, co8, eo8, gb8, gl8, cl8, HG8⟩ := Kd.R_form HO_0.out (by omega)
 (first | cases eo8 | (injection eo8 with ea_ en_ ec_; (first | subst ea_ | (injection ea_ with ea_; subst ea_)); subst ec_; clear en_))
 have GB8 := Aside0.mk gb8
 have GG8 := Aside0.mk HG8
 clear gb8 gl8 HG8
 have HMgo8 := Aside0.mk (show (P0_ go8 ∨ w.heap.size ≤ go8) from (HO_0.out.1 _ rfl))
 obtain ⟨ce8, hcl8, hM8, hcc8, hfr8⟩ := Kd.R_elem HO_0.out z74 (x5_1 : Int) p8 q8
 obtain rfl := k74_openM hM8
 have hx8_0 : wr.cell? ⟨go8, (x5_1 : Int).toNat * 2, none⟩ = some (.int .i8 ((rd_T74 x0_2 x5_1).f0)) := hcc8 0 _ rfl
 have hx8_1 : wr.cell? ⟨go8, (x5_1 : Int).toNat * 2 + 1, none⟩ = some (.int .i8 ((rd_T74 x0_2 x5_1).f1)) := hcc8 1 _ rfl
 have hf8_0 : wr.frozen? ⟨go8, (x5_1 : Int).toNat * 2, none⟩ = false := hfr8 0
 have hf8_1 : wr.frozen? ⟨go8, (x5_1 : Int).toNat * 2 + 1, none⟩ = false := hfr8 1
 clear hcl8 hcc8 hfr8 hM8
 replace p8 := eq_true p8
 replace q8 := eq_true q8
 have HX15 := Aside0.mk (show Kd.R k74 74 wr w0.heap.size (fun k_ => (P0_ k_ ∨ w.heap.size ≤ k_)) (.slice (some ⟨go8, 0, none⟩) x0_2.length co4) x0_2 from (ze HO_0).out)
 obtain ⟨ce15, hcl15, hM15, hcc15, hfr15⟩ := Kd.R_elem HX15.out z74 (x5_1 : Int) (of_decide_eq_true (by first | (with_reducible assumption) | assumption)) (by have h_ : (x5_1 : Int) < ((x0_2.length : Int) : Int) := of_decide_eq_true (by first | (with_reducible assumption) | assumption); first | exact h_ | (have e_ := (Kd.R_reads' HO_0.out).1; omega) | simpa using h_)
 obtain rfl := k74_openM hM15
 have HP15 := Kd.R_seg HX15.out (x5_1 : Int) (of_decide_eq_true (by first | (with_reducible assumption) | assumption)) (by have h_ : (x5_1 : Int) < ((x0_2.length : Int) : Int) := of_decide_eq_true (by first | (with_reducible assumption) | assumption); first | exact h_ | (have e_ := (Kd.R_reads' HO_0.out).1; omega) | simpa using h_) (seg := [.int .i8 (IntKind.i8.wrap (x1_2))]) (j := 1) hcl15 hcc15 (show 2 ≤ 2 from by decide) (x' := (⟨(rd_T74 x0_2 x5_1).f0, IntKind.i8.wrap (x1_2)⟩ : S74)) (k74_mkM _ _ _ (⟨(rd_T74 x0_2 x5_1).f0, IntKind.i8.wrap (x1_2)⟩ : S74) ) (fun _ hk => hk)
 have hx15_1 := hcc15 1 _ rfl
 (try simp only [show (k74).sz = 2 from rfl, Nat.mul_one, Nat.add_zero] at hx15_1)
 have hf15_1 := hfr15 1
 (try simp only [show (k74).sz = 2 from rfl, Nat.mul_one, Nat.add_zero] at hf15_1)
 clear hcl15 hcc15 hfr15 hM15
 go_wp2_with (first | ((with_reducible refine gate_store (t := 22) (p := 23) rfl ?_); refine store_event (t := 22) (p := 23) (v := ?vo_w16) (w1 := (wr.setCell ⟨go8, (x5_1 : Int).toNat * 2 + 1, none⟩ (.int .i8 (IntKind.i8.wrap (x1_2))))) ?hg ?ho ?hn ?hr ?_; (case ho => rfl); (case hg => rfl); (case hn => rfl); (case hr => first | (go_simp; done) | (go_simp; rfl)); intro w16 hw; have hg : wr.grownBy w16 (some go8) := (by rw [hw]; exact HP15.2); have hp_ : Kd.R k74 74 w16 w0.heap.size (fun k_ => (P0_ k_ ∨ w.heap.size ≤ k_)) (.slice (some ⟨go8, 0, none⟩) x0_2.length co4) y362 := (by rw [hw, Ny362.out]; exact HP15.1); clear HP15; have n_ : _ ∧ _ ∧ _ := ⟨Aside0.mk (hp_), Aside0.mk ((by rw [hw]; exact below_set (HB.out) GB8.out : Below w0.heap.size w0 w16)), Aside0.mk (Kept.of_grown (S := (fun k_ => P0_ k_)) hg (by repeat (first | (with_reducible first | exact HK.out | apply Kept.alloc | apply Kept.drewN | apply Kept.drew) | exact HK.out)) (fun k_ e_ => (HO_0.out.1 k_ e_)))⟩; clear HO_0 HB HK; obtain ⟨HO_0, HB, HK⟩ := n_; clear hg hw hp_))
 (try simp only [← hl0_2])
 go_roundg k2
 case measure => have := HK1.out; have := HK2.out; omega
 case rel => exact ⟨(y362), (wrap64 (x1_2 + 1)), (wrap64 (x6_2 + 1)), (by first | rfl | (simp; done) | (simp [*]; done) | (exact congrArg (Value.int .i64) (wrap_eq (by omega)))), (by first | rfl | (simp; done) | (simp [*]; done) | (exact congrArg (Value.int .i64) (wrap_eq (by omega)))), H', ⟨by have := HK1.out; have := HK2.out; omega⟩, ⟨by (try simp only [hl0_2]); (with_reducible repeat (first | apply Kd.R_alloc | apply Kd.R_drewN | apply Kd.R_drew)); exact HO_0.out⟩, ⟨by repeat (first | (with_reducible first | exact HK.out | apply Kept.alloc | apply Kept.drewN | apply Kept.drew) | exact HK.out)⟩, zl HB⟩
/-! ### laws_markMachine: function 29 -/
def laws_markMachine.f (k : Nat) (a0_0 : Int) (a0_1 : Int) (l0_2 : List (S91)) (l0_3 : List (S116)) (l0_4 : List (S74)) (a1 : Int) : Option (Int × (List (S91)) × (List (S116)) × (List (S74))) := (laws_markBoard.f k a0_0 a0_1 l0_2 a1).bind fun bt364 => ((laws_markPortS.f k l0_3 bt364.1).bind fun bt366 => ((laws_markCellS.f k l0_4 bt366.1).bind fun bt368 => (some (bt368.1, bt364.2, bt366.2, bt368.2))))
theorem laws_markMachine.mono : ∀ a0 a1 a2 a3 a4 a5 k, LeO (laws_markMachine.f k a0 a1 a2 a3 a4 a5) (laws_markMachine.f (k + 1) a0 a1 a2 a3 a4 a5) := by
 intro a0 a1 a2 a3 a4 a5 k
 unfold laws_markMachine.f
 repeat' first | (with_reducible first | apply laws_markBoard.mono | apply laws_markCellS.mono | apply laws_markPortS.mono | exact LeO.refl _ | exact LeO.none _ | refine LeO.ite ?_ ?_ | refine LeO.bind ?_ (fun _ => ?_)) | apply laws_markBoard.mono | apply laws_markCellS.mono | apply laws_markPortS.mono | exact LeO.none _ | refine LeO.ite ?_ ?_ | refine LeO.bind ?_ (fun _ => ?_)
set_option maxHeartbeats 8000000 in
set_option maxRecDepth 100000 in
theorem laws_markMachine.calls (k : Nat) (a0_0 : Int) (a0_1 : Int) (P0_2_ : Nat → Prop) (u9000_ : Value) (l0_2 : List (S91)) (P0_3_ : Nat → Prop) (u9001_ : Value) (l0_3 : List (S116)) (P0_4_ : Nat → Prop) (u9002_ : Value) (l0_4 : List (S74)) (a1 : Int) (r1 : Int) (r2 : List (S91)) (r3 : List (S116)) (r4 : List (S74)) (w0 w : World) (hB : Below w0.heap.size w0 w) (ho0_2 : Kd.R k91 91 w w0.heap.size P0_2_ u9000_ l0_2) (ho0_3 : Kd.R k116 116 w w0.heap.size P0_3_ u9001_ l0_3) (ho0_4 : Kd.R k74 74 w w0.heap.size P0_4_ u9002_ l0_4) (h : laws_markMachine.f k a0_0 a0_1 l0_2 l0_3 l0_4 a1 = some (r1, r2, r3, r4)) :
    Calls Try.prog 29 #[.agg #[.int .i8 a0_0, .int .i8 a0_1, u9000_, u9001_, u9002_], .int .i64 a1] w fun e w' => e = .returned (.int .i64 r1) ∧ Kd.R k91 91 w' w0.heap.size (fun k_ => ((P0_2_ k_ ∨ P0_3_ k_ ∨ P0_4_ k_) ∨ w.heap.size ≤ k_)) u9000_ r2 ∧ Kd.R k116 116 w' w0.heap.size (fun k_ => ((P0_2_ k_ ∨ P0_3_ k_ ∨ P0_4_ k_) ∨ w.heap.size ≤ k_)) u9001_ r3 ∧ Kd.R k74 74 w' w0.heap.size (fun k_ => ((P0_2_ k_ ∨ P0_3_ k_ ∨ P0_4_ k_) ∨ w.heap.size ≤ k_)) u9002_ r4 ∧ Below w0.heap.size w0 w' ∧ Kept w w' (fun k_ => P0_2_ k_ ∨ P0_3_ k_ ∨ P0_4_ k_) := by
 have hu41 := Try.underlying41
 have hu37 := Try.underlying37
 have HO0_2 := Aside0.mk (show Kd.R k91 91 w w0.heap.size (fun k_ => ((P0_2_ k_ ∨ P0_3_ k_ ∨ P0_4_ k_) ∨ w.heap.size ≤ k_)) u9000_ l0_2 from Kd.R_mono ho0_2 (fun k_ hk => (.inl (.inl hk))))
 have HO0_3 := Aside0.mk (show Kd.R k116 116 w w0.heap.size (fun k_ => ((P0_2_ k_ ∨ P0_3_ k_ ∨ P0_4_ k_) ∨ w.heap.size ≤ k_)) u9001_ l0_3 from Kd.R_mono ho0_3 (fun k_ hk => (.inl (.inr (.inl hk)))))
 have HO0_4 := Aside0.mk (show Kd.R k74 74 w w0.heap.size (fun k_ => ((P0_2_ k_ ∨ P0_3_ k_ ∨ P0_4_ k_) ∨ w.heap.size ≤ k_)) u9002_ l0_4 from Kd.R_mono ho0_4 (fun k_ hk => (.inl (.inr (.inr hk)))))
 have HK := Aside0.mk (Kept.refl w (fun k_ => P0_2_ k_ ∨ P0_3_ k_ ∨ P0_4_ k_))
 have HW0 := Aside0.mk hB.size
 have HB := Aside0.mk hB
 clear hB
 have H : ((laws_markBoard.f k a0_0 a0_1 l0_2 a1).bind fun bt364 => ((laws_markPortS.f k l0_3 bt364.1).bind fun bt366 => ((laws_markCellS.f k l0_4 bt366.1).bind fun bt368 => (some (bt368.1, bt364.2, bt366.2, bt368.2))))) = some (r1, r2, r3, r4) := h
 clear h
 replace H := Option.bind_eq_some_iff.mp H
 obtain ⟨⟨t364, t365⟩, A30, H⟩ := H
 replace H : ((laws_markPortS.f k l0_3 t364).bind fun bt366 => ((laws_markCellS.f k l0_4 bt366.1).bind fun bt368 => (some (bt368.1, t365, bt366.2, bt368.2)))) = some (r1, r2, r3, r4) := H
 have A3 := Aside0.mk A30
 clear A30
 replace H := Option.bind_eq_some_iff.mp H
 obtain ⟨⟨t366, t367⟩, A40, H⟩ := H
 replace H : ((laws_markCellS.f k l0_4 t366).bind fun bt368 => (some (bt368.1, t365, t367, bt368.2))) = some (r1, r2, r3, r4) := H
 have A4 := Aside0.mk A40
 clear A40
 replace H := Option.bind_eq_some_iff.mp H
 obtain ⟨⟨t368, t369⟩, A50, H⟩ := H
 replace H : (some (t368, t365, t367, t369)) = some (r1, r2, r3, r4) := H
 have A5 := Aside0.mk A50
 clear A50
 simp only [Option.some.injEq, Prod.mk.injEq] at H
 obtain ⟨rfl, rfl, rfl, rfl⟩ := H
 obtain ⟨Ao6, co6, eo6⟩ := Kd.R_slice HO0_2.out
 subst eo6
 obtain ⟨Ao7, co7, eo7⟩ := Kd.R_slice HO0_3.out
 subst eo7
 obtain ⟨Ao8, co8, eo8⟩ := Kd.R_slice HO0_4.out
 subst eo8
 go_enter Try.func29, Try.ntmps29
 go_wp2_with (first | ((with_reducible refine gate_dst (N := 2) rfl ?_); refine box_event ?hg (N := 2) ?hd (cs := #[.int .i8 a0_0, .int .i8 a0_1, .slice Ao6 l0_2.length co6, .slice Ao7 l0_3.length co7, .slice Ao8 l0_4.length co8]) (t := 41) ?hr ?_; (case hd => rfl); (case hg => rfl); (case hr => first | (go_simp; done) | (go_simp; rfl)); intro gb363 hg w9 hbox hb; have n_ : _ ∧ _ ∧ _ ∧ _ ∧ _ ∧ _ ∧ _ ∧ _ := ⟨zr HO0_2 hb, zr HO0_3 hb, zr HO0_4 hb, Aside0.mk (Kept.below (S := (fun k_ => P0_2_ k_ ∨ P0_3_ k_ ∨ P0_4_ k_)) (by repeat (first | (with_reducible first | exact HK.out | apply Kept.alloc | apply Kept.drewN | apply Kept.drew) | exact HK.out)) hb), zb HB hb, Aside0.mk (hbox), Aside0.mk ((by rw [hg]; exact (by first | exact HK.out.1 | exact (show Kept w _ (fun k_ => P0_2_ k_ ∨ P0_3_ k_ ∨ P0_4_ k_) from by repeat (first | (with_reducible first | exact HK.out | apply Kept.alloc | apply Kept.drewN | apply Kept.drew) | exact HK.out)).1) : w.heap.size ≤ gb363)), Aside0.mk ((by rw [hg]; exact (zz HB) : w0.heap.size ≤ gb363))⟩; clear HO0_2 HO0_3 HO0_4 HK HB; obtain ⟨HO0_2, HO0_3, HO0_4, HK, HB, BK363, GW363, GE363⟩ := n_; clear hb hbox hg; obtain ⟨z10_0, z10_1, z10_2, z10_3, z10_4, y10_0, y10_1, y10_2, y10_3, y10_4⟩ := zB5 BK363) | ((with_reducible refine gate_callee (f := 50) rfl ?_); refine goesL_ (some 8) rfl rfl Try.func50 (by kernel_rfl) rfl #[.agg #[.int .i8 a0_0, .int .i8 a0_1, .slice Ao6 l0_2.length co6], .int .i64 a1] rfl (by (try simp only [List.map_toArray, List.map_cons, List.map_nil]); first | done | rfl | (simp only [List.length_drop, List.length_take]; rfl)) ?_; (with_reducible refine (laws_markBoard.calls k a0_0 a0_1 (fun k_ => some k_ = (.slice Ao6 l0_2.length co6 : Value).ownBlock) (.slice Ao6 l0_2.length co6) l0_2 a1 t364 t365 w0 _ ?side1 ?side2 A3.out).mono ?_); (case side1 => exact zbo); (case side2 => exact Kd.R_tight rfl HO0_2.out); rintro e w11 ⟨rfl, hy0, hb, hkp⟩; refine ⟨_, rfl, ?_⟩; have n_ : _ ∧ _ ∧ _ ∧ _ ∧ _ ∧ _ := ⟨Aside0.mk (Kd.R_reok rfl hy0 (fun k_ e_ => HO0_2.out.1 k_ e_)), Aside0.mk (Kd.R_mono (ok' := fun k_ => ((P0_2_ k_ ∨ P0_3_ k_ ∨ P0_4_ k_) ∨ w.heap.size ≤ k_)) (Kd.R_keptB ((Kd.R_apart' HO0_3.out (Kd.R_typed HO0_2.out) (by decide))) hkp (fun k_ hk_ hs_ => (hk_.2) hs_)) (fun k_ hk_ => hk_.1.1)), Aside0.mk (Kd.R_mono (ok' := fun k_ => ((P0_2_ k_ ∨ P0_3_ k_ ∨ P0_4_ k_) ∨ w.heap.size ≤ k_)) (Kd.R_keptB ((Kd.R_apart' HO0_4.out (Kd.R_typed HO0_2.out) (by decide))) hkp (fun k_ hk_ hs_ => (hk_.2) hs_)) (fun k_ hk_ => hk_.1.1)), zkr BK363 hkp (fun hs_ => (fun e_ => (Kd.R_ne HO0_2.out BK363.out (by decide)) e_) hs_), Aside0.mk (Kept.then_ (S := (fun k_ => P0_2_ k_ ∨ P0_3_ k_ ∨ P0_4_ k_)) (by repeat (first | (with_reducible first | exact HK.out | apply Kept.alloc | apply Kept.drewN | apply Kept.drew | refine Kept.setCell ?_ (.inr GW363.out) _) | exact HK.out)) hkp (fun k_ hs_ => (fun e_ => (HO0_2.out.1 k_ e_.symm)) hs_)), Aside0.mk (hb)⟩; clear HO0_2 HO0_3 HO0_4 BK363 HK HB; obtain ⟨HO0_2, HO0_3, HO0_4, BK363, HK, HB⟩ := n_; (try clear hb); (try clear hkp); (try clear hy0); obtain ⟨z12_0, z12_1, z12_2, z12_3, z12_4, y12_0, y12_1, y12_2, y12_3, y12_4⟩ := zB5 BK363) | ((with_reducible refine gate_callee (f := 94) rfl ?_); refine goesL_ (some 12) rfl rfl Try.func94 (by kernel_rfl) rfl #[.slice Ao7 l0_3.length co7, .int .i64 t364] rfl (by (try simp only [List.map_toArray, List.map_cons, List.map_nil]); first | done | rfl | (simp only [List.length_drop, List.length_take]; rfl)) ?_; (with_reducible refine (laws_markPortS.calls k (fun k_ => some k_ = (.slice Ao7 l0_3.length co7 : Value).ownBlock) (.slice Ao7 l0_3.length co7) l0_3 t364 t366 t367 w0 _ ?side1 ?side2 A4.out).mono ?_); (case side1 => exact zbo); (case side2 => exact Kd.R_tight rfl HO0_3.out); rintro e w13 ⟨rfl, hy0, hb, hkp⟩; refine ⟨_, rfl, ?_⟩; have n_ : _ ∧ _ ∧ _ ∧ _ ∧ _ ∧ _ := ⟨Aside0.mk (Kd.R_mono (ok' := fun k_ => ((P0_2_ k_ ∨ P0_3_ k_ ∨ P0_4_ k_) ∨ w.heap.size ≤ k_)) (Kd.R_keptB ((Kd.R_apart' HO0_2.out (Kd.R_typed HO0_3.out) (by decide))) hkp (fun k_ hk_ hs_ => (hk_.2) hs_)) (fun k_ hk_ => hk_.1.1)), Aside0.mk (Kd.R_reok rfl hy0 (fun k_ e_ => HO0_3.out.1 k_ e_)), Aside0.mk (Kd.R_mono (ok' := fun k_ => ((P0_2_ k_ ∨ P0_3_ k_ ∨ P0_4_ k_) ∨ w.heap.size ≤ k_)) (Kd.R_keptB ((Kd.R_apart' HO0_4.out (Kd.R_typed HO0_3.out) (by decide))) hkp (fun k_ hk_ hs_ => (hk_.2) hs_)) (fun k_ hk_ => hk_.1.1)), zkr BK363 hkp (fun hs_ => (fun e_ => (Kd.R_ne HO0_3.out BK363.out (by decide)) e_) hs_), Aside0.mk (Kept.then_ (S := (fun k_ => P0_2_ k_ ∨ P0_3_ k_ ∨ P0_4_ k_)) (by repeat (first | (with_reducible first | exact HK.out | apply Kept.alloc | apply Kept.drewN | apply Kept.drew | refine Kept.setCell ?_ (.inr GW363.out) _) | exact HK.out)) hkp (fun k_ hs_ => (fun e_ => (HO0_3.out.1 k_ e_.symm)) hs_)), Aside0.mk (hb)⟩; clear HO0_2 HO0_3 HO0_4 BK363 HK HB; obtain ⟨HO0_2, HO0_3, HO0_4, BK363, HK, HB⟩ := n_; (try clear hb); (try clear hkp); (try clear hy0); obtain ⟨z14_0, z14_1, z14_2, z14_3, z14_4, y14_0, y14_1, y14_2, y14_3, y14_4⟩ := zB5 BK363) | ((with_reducible refine gate_callee (f := 95) rfl ?_); refine goesL_ (some 16) rfl rfl Try.func95 (by kernel_rfl) rfl #[.slice Ao8 l0_4.length co8, .int .i64 t366] rfl (by (try simp only [List.map_toArray, List.map_cons, List.map_nil]); first | done | rfl | (simp only [List.length_drop, List.length_take]; rfl)) ?_; (with_reducible refine (laws_markCellS.calls k (fun k_ => some k_ = (.slice Ao8 l0_4.length co8 : Value).ownBlock) (.slice Ao8 l0_4.length co8) l0_4 t366 t368 t369 w0 _ ?side1 ?side2 A5.out).mono ?_); (case side1 => exact zbo); (case side2 => exact Kd.R_tight rfl HO0_4.out); rintro e w15 ⟨rfl, hy0, hb, hkp⟩; refine ⟨_, rfl, ?_⟩; have n_ : _ ∧ _ ∧ _ ∧ _ ∧ _ ∧ _ := ⟨Aside0.mk (Kd.R_mono (ok' := fun k_ => ((P0_2_ k_ ∨ P0_3_ k_ ∨ P0_4_ k_) ∨ w.heap.size ≤ k_)) (Kd.R_keptB ((Kd.R_apart' HO0_2.out (Kd.R_typed HO0_4.out) (by decide))) hkp (fun k_ hk_ hs_ => (hk_.2) hs_)) (fun k_ hk_ => hk_.1.1)), Aside0.mk (Kd.R_mono (ok' := fun k_ => ((P0_2_ k_ ∨ P0_3_ k_ ∨ P0_4_ k_) ∨ w.heap.size ≤ k_)) (Kd.R_keptB ((Kd.R_apart' HO0_3.out (Kd.R_typed HO0_4.out) (by decide))) hkp (fun k_ hk_ hs_ => (hk_.2) hs_)) (fun k_ hk_ => hk_.1.1)), Aside0.mk (Kd.R_reok rfl hy0 (fun k_ e_ => HO0_4.out.1 k_ e_)), zkr BK363 hkp (fun hs_ => (fun e_ => (Kd.R_ne HO0_4.out BK363.out (by decide)) e_) hs_), Aside0.mk (Kept.then_ (S := (fun k_ => P0_2_ k_ ∨ P0_3_ k_ ∨ P0_4_ k_)) (by repeat (first | (with_reducible first | exact HK.out | apply Kept.alloc | apply Kept.drewN | apply Kept.drew | refine Kept.setCell ?_ (.inr GW363.out) _) | exact HK.out)) hkp (fun k_ hs_ => (fun e_ => (HO0_4.out.1 k_ e_.symm)) hs_)), Aside0.mk (hb)⟩; clear HO0_2 HO0_3 HO0_4 BK363 HK HB; obtain ⟨HO0_2, HO0_3, HO0_4, BK363, HK, HB⟩ := n_; (try clear hb); (try clear hkp); (try clear hy0)))
 go_ret
 exact ⟨by first | rfl | (simp [errW_none, errW_some] <;> rfl) | (simp [*, errW_none, errW_some] <;> rfl), by (with_reducible repeat (first | apply Kd.R_alloc | apply Kd.R_drewN | apply Kd.R_drew)); exact HO0_2.out, by (with_reducible repeat (first | apply Kd.R_alloc | apply Kd.R_drewN | apply Kd.R_drew)); exact HO0_3.out, by (with_reducible repeat (first | apply Kd.R_alloc | apply Kd.R_drewN | apply Kd.R_drew)); exact HO0_4.out, by repeat (first | (with_reducible first | exact HB.out | apply below_alloc | apply pw_below_drewN | apply below_drew1 | refine below_set ?_ GE363.out) | exact HB.out), by repeat (first | (with_reducible first | exact HK.out | apply Kept.alloc | apply Kept.drewN | apply Kept.drew | refine Kept.setCell ?_ (.inr GW363.out) _) | exact HK.out)⟩
/-! ### laws_markInt64S: function 30 -/
def laws_markInt64S.l0 : Nat → List Int → Int → Int → Option (Int × List Int)
  | 0, _, _, _ => none
  | k + 1, x0, x1, x5 => if x5 < (x0.length : Int) then (if 0 ≤ x5 then (laws_markInt64S.l0 k (x0.set (x5 : Int).toNat x1) (wrap64 (x1 + 1)) (wrap64 (x5 + 1))) else (none)) else (some (x1, x0))
def laws_markInt64S.f (k : Nat) (l0 : List Int) (a1 : Int) : Option (Int × List Int) := laws_markInt64S.l0 k l0 a1 0
theorem laws_markInt64S.mono_l : ∀ k, (∀ y0 y1 y2, LeO (laws_markInt64S.l0 k y0 y1 y2) (laws_markInt64S.l0 (k + 1) y0 y1 y2))
  | 0 => fun _ _ _ r h => by simp [laws_markInt64S.l0] at h
  | k + 1 => by
    have ih0 := laws_markInt64S.mono_l k
    · intro y0 y1 y2
      unfold laws_markInt64S.l0
      repeat' first | (with_reducible first | apply ih0 | exact LeO.refl _ | exact LeO.none _ | refine LeO.ite ?_ ?_ | refine LeO.bind ?_ (fun _ => ?_)) | apply ih0 | exact LeO.none _ | refine LeO.ite ?_ ?_ | refine LeO.bind ?_ (fun _ => ?_)
theorem laws_markInt64S.mono : ∀ a0 a1 k, LeO (laws_markInt64S.f k a0 a1) (laws_markInt64S.f (k + 1) a0 a1) := by
 intro a0 a1 k
 have ih0 := laws_markInt64S.mono_l k
 unfold laws_markInt64S.f
 repeat' first | (with_reducible first | apply ih0 | exact LeO.refl _ | exact LeO.none _ | refine LeO.ite ?_ ?_ | refine LeO.bind ?_ (fun _ => ?_)) | apply ih0 | exact LeO.none _ | refine LeO.ite ?_ ?_ | refine LeO.bind ?_ (fun _ => ?_)
set_option maxHeartbeats 8000000 in
set_option maxRecDepth 100000 in
theorem laws_markInt64S.calls (k : Nat) (P0_ : Nat → Prop) (u9000_ : Value) (l0 : List Int) (a1 : Int) (r1 : Int) (r2 : List Int) (w0 w : World) (hB : Below w0.heap.size w0 w) (ho0 : Kd.R (Kd.int .i64) 2 w w0.heap.size P0_ u9000_ l0) (h : laws_markInt64S.f k l0 a1 = some (r1, r2)) :
    Calls Try.prog 30 #[u9000_, .int .i64 a1] w fun e w' => e = .returned (.int .i64 r1) ∧ Kd.R (Kd.int .i64) 2 w' w0.heap.size (fun k_ => (P0_ k_ ∨ w.heap.size ≤ k_)) u9000_ r2 ∧ Below w0.heap.size w0 w' ∧ Kept w w' (fun k_ => P0_ k_) := by
 have HO0 := Aside0.mk (show Kd.R (Kd.int .i64) 2 w w0.heap.size (fun k_ => (P0_ k_ ∨ w.heap.size ≤ k_)) u9000_ l0 from Kd.R_mono ho0 (fun k_ hk => (.inl hk)))
 have HK := Aside0.mk (Kept.refl w (fun k_ => P0_ k_))
 have HW0 := Aside0.mk hB.size
 have HB := Aside0.mk hB
 clear hB
 have H : (laws_markInt64S.l0 k l0 a1 0) = some (r1, r2) := h
 clear h
 have H' := Aside0.mk H
 clear H
 go_enter Try.func30, Try.ntmps30
 go_wp2
 go_loopg [1, 5] k (fun kq v1 v5 w' => ∃ (x0_1 : List Int) (x1_1 : Int) (x5_1 : Int), v1 = .int .i64 x1_1 ∧ v5 = .int .i64 x5_1 ∧ Aside0 (laws_markInt64S.l0 kq x0_1 x1_1 x5_1 = some (r1, r2)) ∧ Aside0 (kq ≤ k) ∧ Aside0 (Kd.R (Kd.int .i64) 2 w' w0.heap.size (fun k_ => (P0_ k_ ∨ w.heap.size ≤ k_)) u9000_ x0_1) ∧ Aside0 (Kept w w' (fun k_ => P0_ k_)) ∧ Aside0 (Below w0.heap.size w0 w'))
 case atStart => exact ⟨(l0), (a1), (0), (by first | rfl | (simp; done) | (simp [*]; done) | (exact congrArg (Value.int .i64) (wrap_eq (by omega)))), (by first | rfl | (simp; done) | (simp [*]; done) | (exact congrArg (Value.int .i64) (wrap_eq (by omega)))), H', ⟨Nat.le_refl _⟩, ze HO0, ⟨by repeat (first | (with_reducible first | exact HK.out | apply Kept.alloc | apply Kept.drewN | apply Kept.drew) | exact HK.out)⟩, zl HB⟩
 clear H'
 try clear p2
 obtain ⟨x0_1, x1_1, x5_1, rfl, rfl, HA, HK1, HO_0, HK, HB⟩ := hrel
 cases gk with
 | zero => exact absurd HA.out (by simp [laws_markInt64S.l0])
 | succ k1 => ?_
 have H := HA.out
 clear HA
 simp only [laws_markInt64S.l0] at H
 by_cases c3 : x5_1 < (x0_1.length : Int)
 rotate_left
 ·rw [if_neg c3] at H
  have c3b0 : decide (x5_1 < (x0_1.length : Int)) = false := decide_eq_false c3
  clear c3
  simp only [Option.some.injEq, Prod.mk.injEq] at H
  obtain ⟨rfl, rfl⟩ := H
  obtain ⟨Ao9, co9, eo9⟩ := Kd.R_slice HO_0.out
  subst eo9
  go_wp2
  go_ret
  exact ⟨by first | rfl | (simp [errW_none, errW_some] <;> rfl) | (simp [*, errW_none, errW_some] <;> rfl), by (with_reducible repeat (first | apply Kd.R_alloc | apply Kd.R_drewN | apply Kd.R_drew)); exact HO_0.out, by repeat (first | (with_reducible first | exact HB.out | apply below_alloc | apply pw_below_drewN | apply below_drew1) | exact HB.out), by repeat (first | (with_reducible first | exact HK.out | apply Kept.alloc | apply Kept.drewN | apply Kept.drew) | exact HK.out)⟩
 rw [if_pos c3] at H
 have c3b0 : decide (x5_1 < (x0_1.length : Int)) = true := decide_eq_true c3
 clear c3
 by_cases c4 : 0 ≤ x5_1
 rotate_left
 ·rw [if_neg c4] at H
  exact absurd H (by simp)
 rw [if_pos c4] at H
 have c4b0 : decide (0 ≤ x5_1) = true := decide_eq_true c4
 clear c4
 obtain ⟨y370, hy370⟩ : ∃ y_ : List Int, y_ = (x0_1.set (x5_1 : Int).toNat x1_1) := ⟨_, rfl⟩
 replace H : (laws_markInt64S.l0 k1 y370 (wrap64 (x1_1 + 1)) (wrap64 (x5_1 + 1))) = some (r1, r2) := by first | (rw [hy370]; with_reducible exact H) | (have H2_ := (Option.bind_some _ _).symm.trans H; rw [hy370]; with_reducible exact H2_) | (have H2_ := (Option.bind_some _ _).symm.trans H; with_reducible exact H2_) | with_reducible exact H | (rw [hy370]; exact H) | exact H
 have Ny370 := Aside0.mk hy370
 clear hy370
 have H' := Aside0.mk H
 clear H
 obtain ⟨Ao6, co6, eo6⟩ := Kd.R_slice HO_0.out
 subst eo6
 have p5 : 0 ≤ (x5_1 : Int) := of_decide_eq_true (by first | (with_reducible assumption) | assumption)
 have q5 : (x5_1 : Int) < ((x0_1.length : Int) : Int) := of_decide_eq_true (by first | (with_reducible assumption) | assumption)
 obtain ⟨go5, co5, eo5, gb5, gl5, cl5, HG5⟩ := Kd.R_form HO_0.out (by omega)
 (first | cases eo5 | (injection eo5 with ea_ en_ ec_; (first | subst ea_ | (injection ea_ with ea_; subst ea_)); subst ec_; clear en_))
 have GB5 := Aside0.mk gb5
 have GG5 := Aside0.mk HG5
 clear gb5 gl5 HG5
 have HMgo5 := Aside0.mk (show (P0_ go5 ∨ w.heap.size ≤ go5) from (HO_0.out.1 _ rfl))
 obtain ⟨hx5_0, hf5_0⟩ := Kd.R_celln 0 HO_0.out (x5_1 : Int) p5 q5
 replace p5 := eq_true p5
 replace q5 := eq_true q5
 have HP7 := Kd.R_putg HO_0.out (x5_1 : Int) x1_1
 go_wp2_with (first | ((with_reducible refine gate_store (t := 2) (p := 15) rfl ?_); refine store_event (t := 2) (p := 15) (v := ?vo_w8) (w1 := (wr.setCell ⟨go5, (x5_1 : Int).toNat, none⟩ (.int .i64 x1_1))) ?hg ?ho ?hn ?hr ?_; (case ho => rfl); (case hg => rfl); (case hn => rfl); (case hr => first | (go_simp; done) | (go_simp; rfl)); intro w8 hw; have hg : wr.grownBy w8 (some go5) := (by rw [hw]; exact HP7.2); have hp_ : Kd.R (Kd.int .i64) 2 w8 w0.heap.size (fun k_ => (P0_ k_ ∨ w.heap.size ≤ k_)) (.slice (some ⟨go5, 0, none⟩) x0_1.length co6) y370 := (by rw [hw, Ny370.out]; exact HP7.1); clear HP7; have n_ : _ ∧ _ ∧ _ := ⟨Aside0.mk (hp_), Aside0.mk ((by rw [hw]; exact below_set (HB.out) GB5.out : Below w0.heap.size w0 w8)), Aside0.mk (Kept.of_grown (S := (fun k_ => P0_ k_)) hg (by repeat (first | (with_reducible first | exact HK.out | apply Kept.alloc | apply Kept.drewN | apply Kept.drew) | exact HK.out)) (fun k_ e_ => (HO_0.out.1 k_ e_)))⟩; clear HO_0 HB HK; obtain ⟨HO_0, HB, HK⟩ := n_; clear hg hw hp_))
 go_roundg k1
 case measure => have := HK1.out; omega
 case rel => exact ⟨(y370), (wrap64 (x1_1 + 1)), (wrap64 (x5_1 + 1)), (by first | rfl | (simp; done) | (simp [*]; done) | (exact congrArg (Value.int .i64) (wrap_eq (by omega)))), (by first | rfl | (simp; done) | (simp [*]; done) | (exact congrArg (Value.int .i64) (wrap_eq (by omega)))), H', ⟨by have := HK1.out; omega⟩, ze HO_0, ⟨by repeat (first | (with_reducible first | exact HK.out | apply Kept.alloc | apply Kept.drewN | apply Kept.drew) | exact HK.out)⟩, zl HB⟩
/-! ### laws_markPushS: function 31 -/
mutual
def laws_markPushS.l0 : Nat → List (S120) → Int → Int → Option (Int × (List (S120)))
  | 0, _, _, _ => none
  | k + 1, x0, x1, x5 => if x5 < (x0.length : Int) then (laws_markPushS.l1 k x0 x1 x5 0) else (some (x1, x0))
def laws_markPushS.l1 : Nat → List (S120) → Int → Int → Int → Option (Int × (List (S120)))
  | 0, _, _, _, _ => none
  | k + 1, x0, x1, x5, x6 => if x6 < 2 then (if 0 ≤ x5 then (if x5 < (x0.length : Int) then (if x6 = 0 then (laws_markPushS.l1 k (x0.set (x5 : Int).toNat (⟨(⟨IntKind.i8.wrap (x1), (rd_T120 x0 x5).f0.f1⟩ : S74), (rd_T120 x0 x5).f1, (rd_T120 x0 x5).f2⟩ : S120)) (wrap64 (x1 + 1)) x5 (wrap64 (x6 + 1))) else (if x6 = 1 then (laws_markPushS.l1 k (x0.set (x5 : Int).toNat (⟨(⟨(rd_T120 x0 x5).f0.f0, IntKind.i8.wrap (x1)⟩ : S74), (rd_T120 x0 x5).f1, (rd_T120 x0 x5).f2⟩ : S120)) (wrap64 (x1 + 1)) x5 (wrap64 (x6 + 1))) else (none))) else (none)) else (none)) else (if 0 ≤ x5 then (if x5 < (x0.length : Int) then ((some (x0.set (x5 : Int).toNat (⟨(⟨(rd_T120 x0 x5).f0.f0, (rd_T120 x0 x5).f0.f1⟩ : S74), IntKind.i8.wrap (x1), (rd_T120 x0 x5).f2⟩ : S120) : List (S120))).bind fun y373 => (laws_markPushS.l0 k (y373.set (x5 : Int).toNat (⟨(⟨(rd_T120 y373 x5).f0.f0, (rd_T120 y373 x5).f0.f1⟩ : S74), (rd_T120 y373 x5).f1, IntKind.i16.wrap (wrap64 (x1 + 1))⟩ : S120)) (wrap64 ((wrap64 (x1 + 1)) + 1)) (wrap64 (x5 + 1)))) else (none)) else (none))
end
def laws_markPushS.f (k : Nat) (l0 : List (S120)) (a1 : Int) : Option (Int × (List (S120))) := laws_markPushS.l0 k l0 a1 0
theorem laws_markPushS.mono_l : ∀ k, (∀ y0 y1 y2, LeO (laws_markPushS.l0 k y0 y1 y2) (laws_markPushS.l0 (k + 1) y0 y1 y2)) ∧ (∀ y0 y1 y2 y3, LeO (laws_markPushS.l1 k y0 y1 y2 y3) (laws_markPushS.l1 (k + 1) y0 y1 y2 y3))
  | 0 => ⟨fun _ _ _ r h => by simp [laws_markPushS.l0] at h, fun _ _ _ _ r h => by simp [laws_markPushS.l1] at h⟩
  | k + 1 => by
    obtain ⟨ih0, ih1⟩ := laws_markPushS.mono_l k
    refine ⟨?_, ?_⟩
    · intro y0 y1 y2
      unfold laws_markPushS.l0
      repeat' first | (with_reducible first | apply ih0 | apply ih1 | exact LeO.refl _ | exact LeO.none _ | refine LeO.ite ?_ ?_ | refine LeO.bind ?_ (fun _ => ?_)) | apply ih0 | apply ih1 | exact LeO.none _ | refine LeO.ite ?_ ?_ | refine LeO.bind ?_ (fun _ => ?_)
    · intro y0 y1 y2 y3
      unfold laws_markPushS.l1
      repeat' first | (with_reducible first | apply ih0 | apply ih1 | exact LeO.refl _ | exact LeO.none _ | refine LeO.ite ?_ ?_ | refine LeO.bind ?_ (fun _ => ?_)) | apply ih0 | apply ih1 | exact LeO.none _ | refine LeO.ite ?_ ?_ | refine LeO.bind ?_ (fun _ => ?_)
theorem laws_markPushS.mono : ∀ a0 a1 k, LeO (laws_markPushS.f k a0 a1) (laws_markPushS.f (k + 1) a0 a1) := by
 intro a0 a1 k
 obtain ⟨ih0, ih1⟩ := laws_markPushS.mono_l k
 unfold laws_markPushS.f
 repeat' first | (with_reducible first | apply ih0 | apply ih1 | exact LeO.refl _ | exact LeO.none _ | refine LeO.ite ?_ ?_ | refine LeO.bind ?_ (fun _ => ?_)) | apply ih0 | apply ih1 | exact LeO.none _ | refine LeO.ite ?_ ?_ | refine LeO.bind ?_ (fun _ => ?_)
set_option maxHeartbeats 8000000 in
set_option maxRecDepth 100000 in
theorem laws_markPushS.calls (k : Nat) (P0_ : Nat → Prop) (u9000_ : Value) (l0 : List (S120)) (a1 : Int) (r1 : Int) (r2 : List (S120)) (w0 w : World) (hB : Below w0.heap.size w0 w) (ho0 : Kd.R k120 120 w w0.heap.size P0_ u9000_ l0) (h : laws_markPushS.f k l0 a1 = some (r1, r2)) :
    Calls Try.prog 31 #[u9000_, .int .i64 a1] w fun e w' => e = .returned (.int .i64 r1) ∧ Kd.R k120 120 w' w0.heap.size (fun k_ => (P0_ k_ ∨ w.heap.size ≤ k_)) u9000_ r2 ∧ Below w0.heap.size w0 w' ∧ Kept w w' (fun k_ => P0_ k_) := by
 have HO0 := Aside0.mk (show Kd.R k120 120 w w0.heap.size (fun k_ => (P0_ k_ ∨ w.heap.size ≤ k_)) u9000_ l0 from Kd.R_mono ho0 (fun k_ hk => (.inl hk)))
 have HK := Aside0.mk (Kept.refl w (fun k_ => P0_ k_))
 have HW0 := Aside0.mk hB.size
 have HB := Aside0.mk hB
 clear hB
 have H : (laws_markPushS.l0 k l0 a1 0) = some (r1, r2) := h
 clear h
 have H' := Aside0.mk H
 clear H
 go_enter Try.func31, Try.ntmps31
 go_wp2
 go_loopg [1, 5] k (fun kq v1 v5 w' => ∃ (x0_1 : List (S120)) (x1_1 : Int) (x5_1 : Int), v1 = .int .i64 x1_1 ∧ v5 = .int .i64 x5_1 ∧ Aside0 (laws_markPushS.l0 kq x0_1 x1_1 x5_1 = some (r1, r2)) ∧ Aside0 (kq ≤ k) ∧ Aside0 (Kd.R k120 120 w' w0.heap.size (fun k_ => (P0_ k_ ∨ w.heap.size ≤ k_)) u9000_ x0_1) ∧ Aside0 (Kept w w' (fun k_ => P0_ k_)) ∧ Aside0 (Below w0.heap.size w0 w'))
 case atStart => exact ⟨(l0), (a1), (0), (by first | rfl | (simp; done) | (simp [*]; done) | (exact congrArg (Value.int .i64) (wrap_eq (by omega)))), (by first | rfl | (simp; done) | (simp [*]; done) | (exact congrArg (Value.int .i64) (wrap_eq (by omega)))), H', ⟨Nat.le_refl _⟩, ze HO0, ⟨by repeat (first | (with_reducible first | exact HK.out | apply Kept.alloc | apply Kept.drewN | apply Kept.drew) | exact HK.out)⟩, zl HB⟩
 clear H'
 try clear p2
 obtain ⟨x0_1, x1_1, x5_1, rfl, rfl, HA, HK1, HO_0, HK, HB⟩ := hrel
 cases gk with
 | zero => exact absurd HA.out (by simp [laws_markPushS.l0])
 | succ k1 => ?_
 have H := HA.out
 clear HA
 simp only [laws_markPushS.l0] at H
 by_cases c3 : x5_1 < (x0_1.length : Int)
 rotate_left
 ·rw [if_neg c3] at H
  have c3b0 : decide (x5_1 < (x0_1.length : Int)) = false := decide_eq_false c3
  clear c3
  simp only [Option.some.injEq, Prod.mk.injEq] at H
  obtain ⟨rfl, rfl⟩ := H
  obtain ⟨Ao25, co25, eo25⟩ := Kd.R_slice HO_0.out
  subst eo25
  go_wp2
  go_ret
  exact ⟨by first | rfl | (simp [errW_none, errW_some] <;> rfl) | (simp [*, errW_none, errW_some] <;> rfl), by (with_reducible repeat (first | apply Kd.R_alloc | apply Kd.R_drewN | apply Kd.R_drew)); exact HO_0.out, by repeat (first | (with_reducible first | exact HB.out | apply below_alloc | apply pw_below_drewN | apply below_drew1) | exact HB.out), by repeat (first | (with_reducible first | exact HK.out | apply Kept.alloc | apply Kept.drewN | apply Kept.drew) | exact HK.out)⟩
 rw [if_pos c3] at H
 have c3b0 : decide (x5_1 < (x0_1.length : Int)) = true := decide_eq_true c3
 clear c3
 have H' := Aside0.mk H
 clear H
 obtain ⟨Ao4, co4, eo4⟩ := Kd.R_slice HO_0.out
 subst eo4
 go_wp2
 go_loopg [1, 6] k1 (fun kq v1 v6 w' => ∃ (x0_2 : List (S120)) (x1_2 : Int) (x6_2 : Int), v1 = .int .i64 x1_2 ∧ v6 = .int .i64 x6_2 ∧ Aside0 (laws_markPushS.l1 kq x0_2 x1_2 x5_1 x6_2 = some (r1, r2)) ∧ Aside0 (kq ≤ k1) ∧ Aside0 (Kd.R k120 120 w' w0.heap.size (fun k_ => (P0_ k_ ∨ w.heap.size ≤ k_)) (.slice Ao4 x0_1.length co4) x0_2) ∧ Aside0 (Kept w w' (fun k_ => P0_ k_)) ∧ Aside0 (Below w0.heap.size w0 w'))
 case atStart => exact ⟨(x0_1), (x1_1), (0), (by first | rfl | (simp; done) | (simp [*]; done) | (exact congrArg (Value.int .i64) (wrap_eq (by omega)))), (by first | rfl | (simp; done) | (simp [*]; done) | (exact congrArg (Value.int .i64) (wrap_eq (by omega)))), H', ⟨Nat.le_refl _⟩, ze HO_0, ⟨by repeat (first | (with_reducible first | exact HK.out | apply Kept.alloc | apply Kept.drewN | apply Kept.drew) | exact HK.out)⟩, zl HB⟩
 clear H'
 try clear p2
 try clear c3
 try clear c3b0
 try clear p2
 obtain ⟨x0_2, x1_2, x6_2, rfl, rfl, HA, HK2, HO_0, HK, HB⟩ := hrel
 have hl0_2 := (Kd.R_reads' HO_0.out).1
 rw [hl0_2] at HO_0
 (try simp only [hl0_2])
 cases gk with
 | zero => exact absurd HA.out (by simp [laws_markPushS.l1])
 | succ k2 => ?_
 have H := HA.out
 clear HA
 simp only [laws_markPushS.l1] at H
 by_cases c5 : x6_2 < 2
 rotate_left
 ·rw [if_neg c5] at H
  have c5b0 : decide (x6_2 < 2) = false := decide_eq_false c5
  clear c5
  by_cases c17 : 0 ≤ x5_1
  rotate_left
  ·rw [if_neg c17] at H
   exact absurd H (by simp)
  rw [if_pos c17] at H
  have c17b0 : decide (0 ≤ x5_1) = true := decide_eq_true c17
  clear c17
  by_cases c18 : x5_1 < (x0_2.length : Int)
  rotate_left
  ·rw [if_neg c18] at H
   exact absurd H (by simp)
  rw [if_pos c18] at H
  have c18b0 : decide (x5_1 < (x0_2.length : Int)) = true := decide_eq_true c18
  clear c18
  obtain ⟨y373, hy373⟩ : ∃ y_ : List (S120), y_ = (x0_2.set (x5_1 : Int).toNat (⟨(⟨(rd_T120 x0_2 x5_1).f0.f0, (rd_T120 x0_2 x5_1).f0.f1⟩ : S74), IntKind.i8.wrap (x1_2), (rd_T120 x0_2 x5_1).f2⟩ : S120)) := ⟨_, rfl⟩
  replace H : (laws_markPushS.l0 k2 (y373.set (x5_1 : Int).toNat (⟨(⟨(rd_T120 y373 x5_1).f0.f0, (rd_T120 y373 x5_1).f0.f1⟩ : S74), (rd_T120 y373 x5_1).f1, IntKind.i16.wrap (wrap64 (x1_2 + 1))⟩ : S120)) (wrap64 ((wrap64 (x1_2 + 1)) + 1)) (wrap64 (x5_1 + 1))) = some (r1, r2) := by first | (rw [hy373]; with_reducible exact H) | (have H2_ := (Option.bind_some _ _).symm.trans H; rw [hy373]; with_reducible exact H2_) | (have H2_ := (Option.bind_some _ _).symm.trans H; with_reducible exact H2_) | with_reducible exact H | (rw [hy373]; exact H) | exact H
  have Ny373 := Aside0.mk hy373
  clear hy373
  obtain ⟨y374, hy374⟩ : ∃ y_ : List (S120), y_ = (y373.set (x5_1 : Int).toNat (⟨(⟨(rd_T120 y373 x5_1).f0.f0, (rd_T120 y373 x5_1).f0.f1⟩ : S74), (rd_T120 y373 x5_1).f1, IntKind.i16.wrap (wrap64 (x1_2 + 1))⟩ : S120)) := ⟨_, rfl⟩
  replace H : (laws_markPushS.l0 k2 y374 (wrap64 ((wrap64 (x1_2 + 1)) + 1)) (wrap64 (x5_1 + 1))) = some (r1, r2) := by first | (rw [hy374]; with_reducible exact H) | (have H2_ := (Option.bind_some _ _).symm.trans H; rw [hy374]; with_reducible exact H2_) | (have H2_ := (Option.bind_some _ _).symm.trans H; with_reducible exact H2_) | with_reducible exact H | (rw [hy374]; exact H) | exact H
  have Ny374 := Aside0.mk hy374
  clear hy374
  have H' := Aside0.mk H
  clear H
  have p19 : 0 ≤ (x5_1 : Int) := of_decide_eq_true (by first | (with_reducible assumption) | assumption)
  have q19 : (x5_1 : Int) < ((x0_2.length : Int) : Int) := of_decide_eq_true (by first | (with_reducible assumption) | assumption)
  obtain ⟨go19, co19, eo19, gb19, gl19, cl19, HG19⟩ := Kd.R_form HO_0.out (by omega)
  (first | cases eo19 | (injection eo19 with ea_ en_ ec_; (first | subst ea_ | (injection ea_ with ea_; subst ea_)); subst ec_; clear en_))
  have GB19 := Aside0.mk gb19
  have GG19 := Aside0.mk HG19
  clear gb19 gl19 HG19
  have HMgo19 := Aside0.mk (show (P0_ go19 ∨ w.heap.size ≤ go19) from (HO_0.out.1 _ rfl))
  obtain ⟨ce19, hcl19, hM19, hcc19, hfr19⟩ := Kd.R_elem HO_0.out z120 (x5_1 : Int) p19 q19
  obtain rfl := k120_openM hM19
  have hx19_0 : wr.cell? ⟨go19, (x5_1 : Int).toNat * 4, none⟩ = some (.int .i8 ((rd_T120 x0_2 x5_1).f0.f0)) := hcc19 0 _ rfl
  have hx19_1 : wr.cell? ⟨go19, (x5_1 : Int).toNat * 4 + 1, none⟩ = some (.int .i8 ((rd_T120 x0_2 x5_1).f0.f1)) := hcc19 1 _ rfl
  have hx19_2 : wr.cell? ⟨go19, (x5_1 : Int).toNat * 4 + 2, none⟩ = some (.int .i8 ((rd_T120 x0_2 x5_1).f1)) := hcc19 2 _ rfl
  have hx19_3 : wr.cell? ⟨go19, (x5_1 : Int).toNat * 4 + 3, none⟩ = some (.int .i16 ((rd_T120 x0_2 x5_1).f2)) := hcc19 3 _ rfl
  have hf19_0 : wr.frozen? ⟨go19, (x5_1 : Int).toNat * 4, none⟩ = false := hfr19 0
  have hf19_1 : wr.frozen? ⟨go19, (x5_1 : Int).toNat * 4 + 1, none⟩ = false := hfr19 1
  have hf19_2 : wr.frozen? ⟨go19, (x5_1 : Int).toNat * 4 + 2, none⟩ = false := hfr19 2
  have hf19_3 : wr.frozen? ⟨go19, (x5_1 : Int).toNat * 4 + 3, none⟩ = false := hfr19 3
  clear hcl19 hcc19 hfr19 hM19
  replace p19 := eq_true p19
  replace q19 := eq_true q19
  have HX21 := Aside0.mk (show Kd.R k120 120 wr w0.heap.size (fun k_ => (P0_ k_ ∨ w.heap.size ≤ k_)) (.slice (some ⟨go19, 0, none⟩) x0_2.length co4) x0_2 from (ze HO_0).out)
  obtain ⟨ce21, hcl21, hM21, hcc21, hfr21⟩ := Kd.R_elem HX21.out z120 (x5_1 : Int) (of_decide_eq_true (by first | (with_reducible assumption) | assumption)) (by have h_ : (x5_1 : Int) < ((x0_2.length : Int) : Int) := of_decide_eq_true (by first | (with_reducible assumption) | assumption); first | exact h_ | (have e_ := (Kd.R_reads' HO_0.out).1; omega) | simpa using h_)
  obtain rfl := k120_openM hM21
  have HP21 := Kd.R_seg HX21.out (x5_1 : Int) (of_decide_eq_true (by first | (with_reducible assumption) | assumption)) (by have h_ : (x5_1 : Int) < ((x0_2.length : Int) : Int) := of_decide_eq_true (by first | (with_reducible assumption) | assumption); first | exact h_ | (have e_ := (Kd.R_reads' HO_0.out).1; omega) | simpa using h_) (seg := [.int .i8 (IntKind.i8.wrap (x1_2))]) (j := 2) hcl21 hcc21 (show 3 ≤ 4 from by decide) (x' := (⟨(⟨(rd_T120 x0_2 x5_1).f0.f0, (rd_T120 x0_2 x5_1).f0.f1⟩ : S74), IntKind.i8.wrap (x1_2), (rd_T120 x0_2 x5_1).f2⟩ : S120)) (k120_mkM _ _ _ (⟨(⟨(rd_T120 x0_2 x5_1).f0.f0, (rd_T120 x0_2 x5_1).f0.f1⟩ : S74), IntKind.i8.wrap (x1_2), (rd_T120 x0_2 x5_1).f2⟩ : S120) ) (fun _ hk => hk)
  have hx21_2 := hcc21 2 _ rfl
  (try simp only [show (k120).sz = 4 from rfl, Nat.mul_one, Nat.add_zero] at hx21_2)
  have hf21_2 := hfr21 2
  (try simp only [show (k120).sz = 4 from rfl, Nat.mul_one, Nat.add_zero] at hf21_2)
  clear hcl21 hcc21 hfr21 hM21
  go_wp2_with (first | ((with_reducible refine gate_store (t := 22) (p := 32) rfl ?_); refine store_event (t := 22) (p := 32) (v := ?vo_w22) (w1 := (wr.setCell ⟨go19, (x5_1 : Int).toNat * 4 + 2, none⟩ (.int .i8 (IntKind.i8.wrap (x1_2))))) ?hg ?ho ?hn ?hr ?_; (case ho => rfl); (case hg => rfl); (case hn => rfl); (case hr => first | (go_simp; done) | (go_simp; rfl)); intro w22 hw; have hg : wr.grownBy w22 (some go19) := (by rw [hw]; exact HP21.2); have hp_ : Kd.R k120 120 w22 w0.heap.size (fun k_ => (P0_ k_ ∨ w.heap.size ≤ k_)) (.slice (some ⟨go19, 0, none⟩) x0_2.length co4) y373 := (by rw [hw, Ny373.out]; exact HP21.1); clear HP21; have n_ : _ ∧ _ ∧ _ := ⟨Aside0.mk (hp_), Aside0.mk ((by rw [hw]; exact below_set (HB.out) GB19.out : Below w0.heap.size w0 w22)), Aside0.mk (Kept.of_grown (S := (fun k_ => P0_ k_)) hg (by repeat (first | (with_reducible first | exact HK.out | apply Kept.alloc | apply Kept.drewN | apply Kept.drew) | exact HK.out)) (fun k_ e_ => (HO_0.out.1 k_ e_)))⟩; clear HO_0 HB HK; obtain ⟨HO_0, HB, HK⟩ := n_; clear hg hw hp_; have p20 : 0 ≤ (x5_1 : Int) := of_decide_eq_true (by first | (with_reducible assumption) | assumption); have q20 : (x5_1 : Int) < ((x0_2.length : Int) : Int) := of_decide_eq_true (by first | (with_reducible assumption) | assumption); obtain ⟨ce20, hcl20, hM20, hcc20, hfr20⟩ := Kd.R_elem HO_0.out z120 (x5_1 : Int) p20 q20; obtain rfl := k120_openM hM20; have hx20_0 : w22.cell? ⟨go19, (x5_1 : Int).toNat * 4, none⟩ = some (.int .i8 ((rd_T120 y373 x5_1).f0.f0)) := hcc20 0 _ rfl; have hx20_1 : w22.cell? ⟨go19, (x5_1 : Int).toNat * 4 + 1, none⟩ = some (.int .i8 ((rd_T120 y373 x5_1).f0.f1)) := hcc20 1 _ rfl; have hx20_2 : w22.cell? ⟨go19, (x5_1 : Int).toNat * 4 + 2, none⟩ = some (.int .i8 ((rd_T120 y373 x5_1).f1)) := hcc20 2 _ rfl; have hx20_3 : w22.cell? ⟨go19, (x5_1 : Int).toNat * 4 + 3, none⟩ = some (.int .i16 ((rd_T120 y373 x5_1).f2)) := hcc20 3 _ rfl; have hf20_0 : w22.frozen? ⟨go19, (x5_1 : Int).toNat * 4, none⟩ = false := hfr20 0; have hf20_1 : w22.frozen? ⟨go19, (x5_1 : Int).toNat * 4 + 1, none⟩ = false := hfr20 1; have hf20_2 : w22.frozen? ⟨go19, (x5_1 : Int).toNat * 4 + 2, none⟩ = false := hfr20 2; have hf20_3 : w22.frozen? ⟨go19, (x5_1 : Int).toNat * 4 + 3, none⟩ = false := hfr20 3; clear hcl20 hcc20 hfr20 hM20; replace p20 := eq_true p20; replace q20 := eq_true q20; have HX23 := Aside0.mk (show Kd.R k120 120 w22 w0.heap.size (fun k_ => (P0_ k_ ∨ w.heap.size ≤ k_)) (.slice (some ⟨go19, 0, none⟩) x0_2.length co4) y373 from (ze HO_0).out); obtain ⟨ce23, hcl23, hM23, hcc23, hfr23⟩ := Kd.R_elem HX23.out z120 (x5_1 : Int) (of_decide_eq_true (by first | (with_reducible assumption) | assumption)) (by have h_ : (x5_1 : Int) < ((x0_2.length : Int) : Int) := of_decide_eq_true (by first | (with_reducible assumption) | assumption); first | exact h_ | (have e_ := (Kd.R_reads' HO_0.out).1; omega) | simpa using h_); obtain rfl := k120_openM hM23; have HP23 := Kd.R_seg HX23.out (x5_1 : Int) (of_decide_eq_true (by first | (with_reducible assumption) | assumption)) (by have h_ : (x5_1 : Int) < ((x0_2.length : Int) : Int) := of_decide_eq_true (by first | (with_reducible assumption) | assumption); first | exact h_ | (have e_ := (Kd.R_reads' HO_0.out).1; omega) | simpa using h_) (seg := [.int .i16 (IntKind.i16.wrap (wrap64 (x1_2 + 1)))]) (j := 3) hcl23 hcc23 (show 4 ≤ 4 from by decide) (x' := (⟨(⟨(rd_T120 y373 x5_1).f0.f0, (rd_T120 y373 x5_1).f0.f1⟩ : S74), (rd_T120 y373 x5_1).f1, IntKind.i16.wrap (wrap64 (x1_2 + 1))⟩ : S120)) (k120_mkM _ _ _ (⟨(⟨(rd_T120 y373 x5_1).f0.f0, (rd_T120 y373 x5_1).f0.f1⟩ : S74), (rd_T120 y373 x5_1).f1, IntKind.i16.wrap (wrap64 (x1_2 + 1))⟩ : S120) ) (fun _ hk => hk); have hx23_3 := hcc23 3 _ rfl; (try simp only [show (k120).sz = 4 from rfl, Nat.mul_one, Nat.add_zero] at hx23_3); have hf23_3 := hfr23 3; (try simp only [show (k120).sz = 4 from rfl, Nat.mul_one, Nat.add_zero] at hf23_3); clear hcl23 hcc23 hfr23 hM23) | ((with_reducible refine gate_store (t := 118) (p := 40) rfl ?_); refine store_event (t := 118) (p := 40) (v := ?vo_w24) (w1 := (w22.setCell ⟨go19, (x5_1 : Int).toNat * 4 + 3, none⟩ (.int .i16 (IntKind.i16.wrap (wrap64 (x1_2 + 1)))))) ?hg ?ho ?hn ?hr ?_; (case ho => rfl); (case hg => rfl); (case hn => rfl); (case hr => first | (go_simp; done) | (go_simp; rfl)); intro w24 hw; have hg : w22.grownBy w24 (some go19) := (by rw [hw]; exact HP23.2); have hp_ : Kd.R k120 120 w24 w0.heap.size (fun k_ => (P0_ k_ ∨ w.heap.size ≤ k_)) (.slice (some ⟨go19, 0, none⟩) x0_2.length co4) y374 := (by rw [hw, Ny374.out]; exact HP23.1); clear HP23; have n_ : _ ∧ _ ∧ _ := ⟨Aside0.mk (hp_), Aside0.mk ((by rw [hw]; exact below_set (HB.out) GB19.out : Below w0.heap.size w0 w24)), Aside0.mk (Kept.of_grown (S := (fun k_ => P0_ k_)) hg (by repeat (first | (with_reducible first | exact HK.out | apply Kept.alloc | apply Kept.drewN | apply Kept.drew) | exact HK.out)) (fun k_ e_ => (HO_0.out.1 k_ e_)))⟩; clear HO_0 HB HK; obtain ⟨HO_0, HB, HK⟩ := n_; clear hg hw hp_))
  (try simp only [← hl0_2])
  go_roundg k2
  case measure => have := HK1.out; have := HK2.out; omega
  case rel => exact ⟨(y374), (wrap64 ((wrap64 (x1_2 + 1)) + 1)), (wrap64 (x5_1 + 1)), (by first | rfl | (simp; done) | (simp [*]; done) | (exact congrArg (Value.int .i64) (wrap_eq (by omega)))), (by first | rfl | (simp; done) | (simp [*]; done) | (exact congrArg (Value.int .i64) (wrap_eq (by omega)))), H', ⟨by have := HK1.out; have := HK2.out; omega⟩, ⟨by (try simp only [hl0_2]); (with_reducible repeat (first | apply Kd.R_alloc | apply Kd.R_drewN | apply Kd.R_drew)); exact HO_0.out⟩, ⟨by repeat (first | (with_reducible first | exact HK.out | apply Kept.alloc | apply Kept.drewN | apply Kept.drew) | exact HK.out)⟩, zl HB⟩
 rw [if_pos c5] at H
 have c5b0 : decide (x6_2 < 2) = true := decide_eq_true c5
 clear c5
 by_cases c6 : 0 ≤ x5_1
 rotate_left
 ·rw [if_neg c6] at H
  exact absurd H (by simp)
 rw [if_pos c6] at H
 have c6b0 : decide (0 ≤ x5_1) = true := decide_eq_true c6
 clear c6
 by_cases c7 : x5_1 < (x0_2.length : Int)
 rotate_left
 ·rw [if_neg c7] at H
  exact absurd H (by simp)
 rw [if_pos c7] at H
 have c7b0 : decide (x5_1 < (x0_2.length : Int)) = true := decide_eq_true c7
 clear c7
 by_cases c9 : x6_2 = 0
 ·rw [if_pos c9] at H
  have Ac9 : Aside0 (x6_2 = 0) := ⟨c9⟩
  clear c9
  have ar10e : x6_2 = 0 := by first | exact (show Aside0 (x6_2 = 0) by assumption).out | exact beq_iff_eq.mp (by assumption) | omega
  have ar10n : (x6_2).toNat = 0 := by rw [ar10e]; rfl
  have ar10l : decide (0 ≤ x6_2) = true := decide_eq_true (by omega)
  have ar10L := eq_true (of_decide_eq_true ar10l)
  have ar10h : decide (x6_2 < 2) = true := decide_eq_true (by omega)
  have ar10H := eq_true (of_decide_eq_true ar10h)
  clear ar10e
  obtain ⟨y371, hy371⟩ : ∃ y_ : List (S120), y_ = (x0_2.set (x5_1 : Int).toNat (⟨(⟨IntKind.i8.wrap (x1_2), (rd_T120 x0_2 x5_1).f0.f1⟩ : S74), (rd_T120 x0_2 x5_1).f1, (rd_T120 x0_2 x5_1).f2⟩ : S120)) := ⟨_, rfl⟩
  replace H : (laws_markPushS.l1 k2 y371 (wrap64 (x1_2 + 1)) x5_1 (wrap64 (x6_2 + 1))) = some (r1, r2) := by first | (rw [hy371]; with_reducible exact H) | (have H2_ := (Option.bind_some _ _).symm.trans H; rw [hy371]; with_reducible exact H2_) | (have H2_ := (Option.bind_some _ _).symm.trans H; with_reducible exact H2_) | with_reducible exact H | (rw [hy371]; exact H) | exact H
  have Ny371 := Aside0.mk hy371
  clear hy371
  have H' := Aside0.mk H
  clear H
  have p8 : 0 ≤ (x5_1 : Int) := of_decide_eq_true (by first | (with_reducible assumption) | assumption)
  have q8 : (x5_1 : Int) < ((x0_2.length : Int) : Int) := of_decide_eq_true (by first | (with_reducible assumption) | assumption)
  obtain ⟨go8, co8, eo8, gb8, gl8, cl8, HG8⟩ := Kd.R_form HO_0.out (by omega)
  (first | cases eo8 | (injection eo8 with ea_ en_ ec_; (first | subst ea_ | (injection ea_ with ea_; subst ea_)); subst ec_; clear en_))
  have GB8 := Aside0.mk gb8
  have GG8 := Aside0.mk HG8
  clear gb8 gl8 HG8
  have HMgo8 := Aside0.mk (show (P0_ go8 ∨ w.heap.size ≤ go8) from (HO_0.out.1 _ rfl))
  obtain ⟨ce8, hcl8, hM8, hcc8, hfr8⟩ := Kd.R_elem HO_0.out z120 (x5_1 : Int) p8 q8
  obtain rfl := k120_openM hM8
  have hx8_0 : wr.cell? ⟨go8, (x5_1 : Int).toNat * 4, none⟩ = some (.int .i8 ((rd_T120 x0_2 x5_1).f0.f0)) := hcc8 0 _ rfl
  have hx8_1 : wr.cell? ⟨go8, (x5_1 : Int).toNat * 4 + 1, none⟩ = some (.int .i8 ((rd_T120 x0_2 x5_1).f0.f1)) := hcc8 1 _ rfl
  have hx8_2 : wr.cell? ⟨go8, (x5_1 : Int).toNat * 4 + 2, none⟩ = some (.int .i8 ((rd_T120 x0_2 x5_1).f1)) := hcc8 2 _ rfl
  have hx8_3 : wr.cell? ⟨go8, (x5_1 : Int).toNat * 4 + 3, none⟩ = some (.int .i16 ((rd_T120 x0_2 x5_1).f2)) := hcc8 3 _ rfl
  have hf8_0 : wr.frozen? ⟨go8, (x5_1 : Int).toNat * 4, none⟩ = false := hfr8 0
  have hf8_1 : wr.frozen? ⟨go8, (x5_1 : Int).toNat * 4 + 1, none⟩ = false := hfr8 1
  have hf8_2 : wr.frozen? ⟨go8, (x5_1 : Int).toNat * 4 + 2, none⟩ = false := hfr8 2
  have hf8_3 : wr.frozen? ⟨go8, (x5_1 : Int).toNat * 4 + 3, none⟩ = false := hfr8 3
  clear hcl8 hcc8 hfr8 hM8
  replace p8 := eq_true p8
  replace q8 := eq_true q8
  have HX11 := Aside0.mk (show Kd.R k120 120 wr w0.heap.size (fun k_ => (P0_ k_ ∨ w.heap.size ≤ k_)) (.slice (some ⟨go8, 0, none⟩) x0_2.length co4) x0_2 from (ze HO_0).out)
  obtain ⟨ce11, hcl11, hM11, hcc11, hfr11⟩ := Kd.R_elem HX11.out z120 (x5_1 : Int) (of_decide_eq_true (by first | (with_reducible assumption) | assumption)) (by have h_ : (x5_1 : Int) < ((x0_2.length : Int) : Int) := of_decide_eq_true (by first | (with_reducible assumption) | assumption); first | exact h_ | (have e_ := (Kd.R_reads' HO_0.out).1; omega) | simpa using h_)
  obtain rfl := k120_openM hM11
  have HP11 := Kd.R_seg HX11.out (x5_1 : Int) (of_decide_eq_true (by first | (with_reducible assumption) | assumption)) (by have h_ : (x5_1 : Int) < ((x0_2.length : Int) : Int) := of_decide_eq_true (by first | (with_reducible assumption) | assumption); first | exact h_ | (have e_ := (Kd.R_reads' HO_0.out).1; omega) | simpa using h_) (seg := [.int .i8 (IntKind.i8.wrap (x1_2))]) (j := 0) hcl11 hcc11 (show 1 ≤ 4 from by decide) (x' := (⟨(⟨IntKind.i8.wrap (x1_2), (rd_T120 x0_2 x5_1).f0.f1⟩ : S74), (rd_T120 x0_2 x5_1).f1, (rd_T120 x0_2 x5_1).f2⟩ : S120)) (k120_mkM _ _ _ (⟨(⟨IntKind.i8.wrap (x1_2), (rd_T120 x0_2 x5_1).f0.f1⟩ : S74), (rd_T120 x0_2 x5_1).f1, (rd_T120 x0_2 x5_1).f2⟩ : S120) ) (fun _ hk => hk)
  have hx11_0 := hcc11 0 _ rfl
  (try simp only [show (k120).sz = 4 from rfl, Nat.mul_one, Nat.add_zero] at hx11_0)
  have hf11_0 := hfr11 0
  (try simp only [show (k120).sz = 4 from rfl, Nat.mul_one, Nat.add_zero] at hf11_0)
  clear hcl11 hcc11 hfr11 hM11
  go_wp2_with (first | ((with_reducible refine gate_store (t := 22) (p := 24) rfl ?_); refine store_event (t := 22) (p := 24) (v := ?vo_w12) (w1 := (wr.setCell ⟨go8, (x5_1 : Int).toNat * 4, none⟩ (.int .i8 (IntKind.i8.wrap (x1_2))))) ?hg ?ho ?hn ?hr ?_; (case ho => rfl); (case hg => rfl); (case hn => rfl); (case hr => first | (go_simp; done) | (go_simp; rfl)); intro w12 hw; have hg : wr.grownBy w12 (some go8) := (by rw [hw]; exact HP11.2); have hp_ : Kd.R k120 120 w12 w0.heap.size (fun k_ => (P0_ k_ ∨ w.heap.size ≤ k_)) (.slice (some ⟨go8, 0, none⟩) x0_2.length co4) y371 := (by rw [hw, Ny371.out]; exact HP11.1); clear HP11; have n_ : _ ∧ _ ∧ _ := ⟨Aside0.mk (hp_), Aside0.mk ((by rw [hw]; exact below_set (HB.out) GB8.out : Below w0.heap.size w0 w12)), Aside0.mk (Kept.of_grown (S := (fun k_ => P0_ k_)) hg (by repeat (first | (with_reducible first | exact HK.out | apply Kept.alloc | apply Kept.drewN | apply Kept.drew) | exact HK.out)) (fun k_ e_ => (HO_0.out.1 k_ e_)))⟩; clear HO_0 HB HK; obtain ⟨HO_0, HB, HK⟩ := n_; clear hg hw hp_))
  (try simp only [← hl0_2])
  go_roundg k2
  case measure => have := HK1.out; have := HK2.out; omega
  case rel => exact ⟨(y371), (wrap64 (x1_2 + 1)), (wrap64 (x6_2 + 1)), (by first | rfl | (simp; done) | (simp [*]; done) | (exact congrArg (Value.int .i64) (wrap_eq (by omega)))), (by first | rfl | (simp; done) | (simp [*]; done) | (exact congrArg (Value.int .i64) (wrap_eq (by omega)))), H', ⟨by have := HK1.out; have := HK2.out; omega⟩, ⟨by (try simp only [hl0_2]); (with_reducible repeat (first | apply Kd.R_alloc | apply Kd.R_drewN | apply Kd.R_drew)); exact HO_0.out⟩, ⟨by repeat (first | (with_reducible first | exact HK.out | apply Kept.alloc | apply Kept.drewN | apply Kept.drew) | exact HK.out)⟩, zl HB⟩
 rw [if_neg c9] at H
 clear c9
 by_cases c13 : x6_2 = 1
 rotate_left
 ·rw [if_neg c13] at H
  exact absurd H (by simp)
 rw [if_pos c13] at H
 have Ac13 : Aside0 (x6_2 = 1) := ⟨c13⟩
 clear c13
 have ar14e : x6_2 = 1 := by first | exact (show Aside0 (x6_2 = 1) by assumption).out | exact beq_iff_eq.mp (by assumption) | omega
 have ar14n : (x6_2).toNat = 1 := by rw [ar14e]; rfl
 have ar14l : decide (0 ≤ x6_2) = true := decide_eq_true (by omega)
 have ar14L := eq_true (of_decide_eq_true ar14l)
 have ar14h : decide (x6_2 < 2) = true := decide_eq_true (by omega)
 have ar14H := eq_true (of_decide_eq_true ar14h)
 clear ar14e
 obtain ⟨y372, hy372⟩ : ∃ y_ : List (S120), y_ = (x0_2.set (x5_1 : Int).toNat (⟨(⟨(rd_T120 x0_2 x5_1).f0.f0, IntKind.i8.wrap (x1_2)⟩ : S74), (rd_T120 x0_2 x5_1).f1, (rd_T120 x0_2 x5_1).f2⟩ : S120)) := ⟨_, rfl⟩
 replace H : (laws_markPushS.l1 k2 y372 (wrap64 (x1_2 + 1)) x5_1 (wrap64 (x6_2 + 1))) = some (r1, r2) := by first | (rw [hy372]; with_reducible exact H) | (have H2_ := (Option.bind_some _ _).symm.trans H; rw [hy372]; with_reducible exact H2_) | (have H2_ := (Option.bind_some _ _).symm.trans H; with_reducible exact H2_) | with_reducible exact H | (rw [hy372]; exact H) | exact H
 have Ny372 := Aside0.mk hy372
 clear hy372
 have H' := Aside0.mk H
 clear H
 have p8 : 0 ≤ (x5_1 : Int) := of_decide_eq_true (by first | (with_reducible assumption) | assumption)
 have q8 : (x5_1 : Int) < ((x0_2.length : Int) : Int) := of_decide_eq_true (by first | (with_reducible assumption) | assumption)
 obtain ⟨go8, co8, eo8, gb8, gl8, cl8, HG8⟩ := Kd.R_form HO_0.out (by omega)
 (first | cases eo8 | (injection eo8 with ea_ en_ ec_; (first | subst ea_ | (injection ea_ with ea_; subst ea_)); subst ec_; clear en_))
 have GB8 := Aside0.mk gb8
 have GG8 := Aside0.mk HG8
 clear gb8 gl8 HG8
 have HMgo8 := Aside0.mk (show (P0_ go8 ∨ w.heap.size ≤ go8) from (HO_0.out.1 _ rfl))
 obtain ⟨ce8, hcl8, hM8, hcc8, hfr8⟩ := Kd.R_elem HO_0.out z120 (x5_1 : Int) p8 q8
 obtain rfl := k120_openM hM8
 have hx8_0 : wr.cell? ⟨go8, (x5_1 : Int).toNat * 4, none⟩ = some (.int .i8 ((rd_T120 x0_2 x5_1).f0.f0)) := hcc8 0 _ rfl
 have hx8_1 : wr.cell? ⟨go8, (x5_1 : Int).toNat * 4 + 1, none⟩ = some (.int .i8 ((rd_T120 x0_2 x5_1).f0.f1)) := hcc8 1 _ rfl
 have hx8_2 : wr.cell? ⟨go8, (x5_1 : Int).toNat * 4 + 2, none⟩ = some (.int .i8 ((rd_T120 x0_2 x5_1).f1)) := hcc8 2 _ rfl
 have hx8_3 : wr.cell? ⟨go8, (x5_1 : Int).toNat * 4 + 3, none⟩ = some (.int .i16 ((rd_T120 x0_2 x5_1).f2)) := hcc8 3 _ rfl
 have hf8_0 : wr.frozen? ⟨go8, (x5_1 : Int).toNat * 4, none⟩ = false := hfr8 0
 have hf8_1 : wr.frozen? ⟨go8, (x5_1 : Int).toNat * 4 + 1, none⟩ = false := hfr8 1
 have hf8_2 : wr.frozen? ⟨go8, (x5_1 : Int).toNat * 4 + 2, none⟩ = false := hfr8 2
 have hf8_3 : wr.frozen? ⟨go8, (x5_1 : Int).toNat * 4 + 3, none⟩ = false := hfr8 3
 clear hcl8 hcc8 hfr8 hM8
 replace p8 := eq_true p8
 replace q8 := eq_true q8
 have HX15 := Aside0.mk (show Kd.R k120 120 wr w0.heap.size (fun k_ => (P0_ k_ ∨ w.heap.size ≤ k_)) (.slice (some ⟨go8, 0, none⟩) x0_2.length co4) x0_2 from (ze HO_0).out)
 obtain ⟨ce15, hcl15, hM15, hcc15, hfr15⟩ := Kd.R_elem HX15.out z120 (x5_1 : Int) (of_decide_eq_true (by first | (with_reducible assumption) | assumption)) (by have h_ : (x5_1 : Int) < ((x0_2.length : Int) : Int) := of_decide_eq_true (by first | (with_reducible assumption) | assumption); first | exact h_ | (have e_ := (Kd.R_reads' HO_0.out).1; omega) | simpa using h_)
 obtain rfl := k120_openM hM15
 have HP15 := Kd.R_seg HX15.out (x5_1 : Int) (of_decide_eq_true (by first | (with_reducible assumption) | assumption)) (by have h_ : (x5_1 : Int) < ((x0_2.length : Int) : Int) := of_decide_eq_true (by first | (with_reducible assumption) | assumption); first | exact h_ | (have e_ := (Kd.R_reads' HO_0.out).1; omega) | simpa using h_) (seg := [.int .i8 (IntKind.i8.wrap (x1_2))]) (j := 1) hcl15 hcc15 (show 2 ≤ 4 from by decide) (x' := (⟨(⟨(rd_T120 x0_2 x5_1).f0.f0, IntKind.i8.wrap (x1_2)⟩ : S74), (rd_T120 x0_2 x5_1).f1, (rd_T120 x0_2 x5_1).f2⟩ : S120)) (k120_mkM _ _ _ (⟨(⟨(rd_T120 x0_2 x5_1).f0.f0, IntKind.i8.wrap (x1_2)⟩ : S74), (rd_T120 x0_2 x5_1).f1, (rd_T120 x0_2 x5_1).f2⟩ : S120) ) (fun _ hk => hk)
 have hx15_1 := hcc15 1 _ rfl
 (try simp only [show (k120).sz = 4 from rfl, Nat.mul_one, Nat.add_zero] at hx15_1)
 have hf15_1 := hfr15 1
 (try simp only [show (k120).sz = 4 from rfl, Nat.mul_one, Nat.add_zero] at hf15_1)
 clear hcl15 hcc15 hfr15 hM15
 go_wp2_with (first | ((with_reducible refine gate_store (t := 22) (p := 24) rfl ?_); refine store_event (t := 22) (p := 24) (v := ?vo_w16) (w1 := (wr.setCell ⟨go8, (x5_1 : Int).toNat * 4 + 1, none⟩ (.int .i8 (IntKind.i8.wrap (x1_2))))) ?hg ?ho ?hn ?hr ?_; (case ho => rfl); (case hg => rfl); (case hn => rfl); (case hr => first | (go_simp; done) | (go_simp; rfl)); intro w16 hw; have hg : wr.grownBy w16 (some go8) := (by rw [hw]; exact HP15.2); have hp_ : Kd.R k120 120 w16 w0.heap.size (fun k_ => (P0_ k_ ∨ w.heap.size ≤ k_)) (.slice (some ⟨go8, 0, none⟩) x0_2.length co4) y372 := (by rw [hw, Ny372.out]; exact HP15.1); clear HP15; have n_ : _ ∧ _ ∧ _ := ⟨Aside0.mk (hp_), Aside0.mk ((by rw [hw]; exact below_set (HB.out) GB8.out : Below w0.heap.size w0 w16)), Aside0.mk (Kept.of_grown (S := (fun k_ => P0_ k_)) hg (by repeat (first | (with_reducible first | exact HK.out | apply Kept.alloc | apply Kept.drewN | apply Kept.drew) | exact HK.out)) (fun k_ e_ => (HO_0.out.1 k_ e_)))⟩; clear HO_0 HB HK; obtain ⟨HO_0, HB, HK⟩ := n_; clear hg hw hp_))
 (try simp only [← hl0_2])
 go_roundg k2
 case measure => have := HK1.out; have := HK2.out; omega
 case rel => exact ⟨(y372), (wrap64 (x1_2 + 1)), (wrap64 (x6_2 + 1)), (by first | rfl | (simp; done) | (simp [*]; done) | (exact congrArg (Value.int .i64) (wrap_eq (by omega)))), (by first | rfl | (simp; done) | (simp [*]; done) | (exact congrArg (Value.int .i64) (wrap_eq (by omega)))), H', ⟨by have := HK1.out; have := HK2.out; omega⟩, ⟨by (try simp only [hl0_2]); (with_reducible repeat (first | apply Kd.R_alloc | apply Kd.R_drewN | apply Kd.R_drew)); exact HO_0.out⟩, ⟨by repeat (first | (with_reducible first | exact HK.out | apply Kept.alloc | apply Kept.drewN | apply Kept.drew) | exact HK.out)⟩, zl HB⟩
end Go.Proofs.Ytffnfpnajkgnaaa.PFnExactPushesFor
