-- WRITTEN by xprint.py, a program of this session's. Not trusted: Lean checks it.
-- packed by pack.py
import Derived.Test.YtffnfpnajkgnaaaPFnExactMoveMachinex0
import Derived.Test.YtffnfpnajkgnaaaPFnExactMoveMachinex1
import Derived.Test.YtffnfpnajkgnaaaPFnExactMoveMachinex6
import Derived.Test.YtffnfpnajkgnaaaTFnExactMoveMachinea
namespace Go.Proofs.Ytffnfpnajkgnaaa.PFnExactMoveMachine
open Go.RowKit Go.Proofs.YtffnfpnajkgnaaaW.PrintWords Go.Proofs.YtffnfpnajkgnaaaW.PrintLast Go.Proofs.YtffnfpnajkgnaaaW.PrintMore Go.Proofs.YtffnfpnajkgnaaaX
attribute [local go_sem] max2_int min2_int max_two min_two max_three min_three max_four min_four   -- for this text's walks alone
set_option maxHeartbeats 8000000
set_option maxRecDepth 100000
set_option linter.unusedVariables false
set_option linter.unusedSimpArgs false

attribute [local go_sem high] eqA74
mutual
def laws_markCellS.l0 : Nat → List (S74) → Int → Int → Option (Int × (List (S74)))
  | 0, _, _, _ => none
  | k + 1, x0, x1, x5 => if x5 < (x0.length : Int) then (laws_markCellS.l1 k x0 x1 x5 0) else (some (x1, x0))
def laws_markCellS.l1 : Nat → List (S74) → Int → Int → Int → Option (Int × (List (S74)))
  | 0, _, _, _, _ => none
  | k + 1, x0, x1, x5, x6 => if x6 < 2 then (if 0 ≤ x5 then (if x5 < (x0.length : Int) then (if x6 = 0 then (laws_markCellS.l1 k (x0.set (x5 : Int).toNat (⟨IntKind.i8.wrap (x1), (rd_T74 x0 x5).f1⟩ : S74)) (wrap64 (x1 + 1)) x5 (wrap64 (x6 + 1))) else (if x6 = 1 then (laws_markCellS.l1 k (x0.set (x5 : Int).toNat (⟨(rd_T74 x0 x5).f0, IntKind.i8.wrap (x1)⟩ : S74)) (wrap64 (x1 + 1)) x5 (wrap64 (x6 + 1))) else (none))) else (none)) else (none)) else (laws_markCellS.l0 k x0 x1 (wrap64 (x5 + 1)))
end
def laws_markCellS.f (k : Nat) (l0 : List (S74)) (a1 : Int) : Option (Int × (List (S74))) := laws_markCellS.l0 k l0 a1 0
theorem laws_markCellS.mono_l : ∀ k, (∀ y0 y1 y2, LeO (laws_markCellS.l0 k y0 y1 y2) (laws_markCellS.l0 (k + 1) y0 y1 y2)) ∧ (∀ y0 y1 y2 y3, LeO (laws_markCellS.l1 k y0 y1 y2 y3) (laws_markCellS.l1 (k + 1) y0 y1 y2 y3))
  | 0 => ⟨fun _ _ _ r h => by simp [laws_markCellS.l0] at h, fun _ _ _ _ r h => by simp [laws_markCellS.l1] at h⟩
  | k + 1 => by
    obtain ⟨ih0, ih1⟩ := laws_markCellS.mono_l k
    refine ⟨?_, ?_⟩
    · intro y0 y1 y2
      unfold laws_markCellS.l0
      repeat' first | (with_reducible first | apply ih0 | apply ih1 | exact LeO.refl _ | exact LeO.none _ | refine LeO.ite ?_ ?_ | refine LeO.bind ?_ (fun _ => ?_)) | apply ih0 | apply ih1 | exact LeO.none _ | refine LeO.ite ?_ ?_ | refine LeO.bind ?_ (fun _ => ?_)
    · intro y0 y1 y2 y3
      unfold laws_markCellS.l1
      repeat' first | (with_reducible first | apply ih0 | apply ih1 | exact LeO.refl _ | exact LeO.none _ | refine LeO.ite ?_ ?_ | refine LeO.bind ?_ (fun _ => ?_)) | apply ih0 | apply ih1 | exact LeO.none _ | refine LeO.ite ?_ ?_ | refine LeO.bind ?_ (fun _ => ?_)
theorem laws_markCellS.mono : ∀ a0 a1 k, LeO (laws_markCellS.f k a0 a1) (laws_markCellS.f (k + 1) a0 a1) := by
 intro a0 a1 k
 obtain ⟨ih0, ih1⟩ := laws_markCellS.mono_l k
 unfold laws_markCellS.f
 repeat' first | (with_reducible first | apply ih0 | apply ih1 | exact LeO.refl _ | exact LeO.none _ | refine LeO.ite ?_ ?_ | refine LeO.bind ?_ (fun _ => ?_)) | apply ih0 | apply ih1 | exact LeO.none _ | refine LeO.ite ?_ ?_ | refine LeO.bind ?_ (fun _ => ?_)
theorem laws_markCellS.calls (k : Nat) (P0_ : Nat → Prop) (u9000_ : Value) (l0 : List (S74)) (a1 : Int) (r1 : Int) (r2 : List (S74)) (w0 w : World) (hB : Below w0.heap.size w0 w) (ho0 : Kd.R k74 74 w w0.heap.size P0_ u9000_ l0) (h : laws_markCellS.f k l0 a1 = some (r1, r2)) :
    Calls Try.prog 95 #[u9000_, .int .i64 a1] w fun e w' => e = .returned (.int .i64 r1) ∧ Kd.R k74 74 w' w0.heap.size (fun k_ => (P0_ k_ ∨ w.heap.size ≤ k_)) u9000_ r2 ∧ Below w0.heap.size w0 w' ∧ Kept w w' (fun k_ => P0_ k_) := by
 have HO0 := Aside0.mk (show Kd.R k74 74 w w0.heap.size (fun k_ => (P0_ k_ ∨ w.heap.size ≤ k_)) u9000_ l0 from Kd.R_mono ho0 (fun k_ hk => (.inl hk)))
 have HK := Aside0.mk (Kept.refl w (fun k_ => P0_ k_))
 have HW0 := Aside0.mk hB.size
 have HB := Aside0.mk hB
 clear hB
 have H : (laws_markCellS.l0 k l0 a1 0) = some (r1, r2) := h
 clear h
 have H' := Aside0.mk H
 clear H
 go_enter Try.func95, Try.ntmps95
 go_wp2
 go_loopg [1, 5] k (fun kq v1 v5 w' => ∃ (x0_1 : List (S74)) (x1_1 : Int) (x5_1 : Int), v1 = .int .i64 x1_1 ∧ v5 = .int .i64 x5_1 ∧ Aside0 (laws_markCellS.l0 kq x0_1 x1_1 x5_1 = some (r1, r2)) ∧ Aside0 (kq ≤ k) ∧ Aside0 (Kd.R k74 74 w' w0.heap.size (fun k_ => (P0_ k_ ∨ w.heap.size ≤ k_)) u9000_ x0_1) ∧ Aside0 (Kept w w' (fun k_ => P0_ k_)) ∧ Aside0 (Below w0.heap.size w0 w'))
 case atStart => exact ⟨(l0), (a1), (0), zi, zi, H', ⟨Nat.le_refl _⟩, ze HO0, ⟨by repeat (first | (with_reducible first | exact HK.out | apply Kept.alloc | apply Kept.drewN | apply Kept.drew) | exact HK.out)⟩, zl HB⟩
 clear H'
 try clear p2
 obtain ⟨x0_1, x1_1, x5_1, rfl, rfl, HA, HK1, HO_0, HK, HB⟩ := hrel
 cases gk with
 | zero => exact absurd HA.out (by simp [laws_markCellS.l0])
 | succ k1 => ?_
 have H := HA.out
 clear HA
 simp only [laws_markCellS.l0] at H
 by_cases c3 : x5_1 < (x0_1.length : Int)
 rotate_left
 ·rw [if_neg c3] at H
  have c3b0 : decide (x5_1 < (x0_1.length : Int)) = false := decide_eq_false c3
  clear c3
  simp only [Option.some.injEq, Prod.mk.injEq] at H
  obtain ⟨rfl, rfl⟩ := H
  obtain ⟨Ao17, co17, eo17⟩ := Kd.R_slice HO_0.out
  subst eo17
  go_wp2
  go_ret
  exact ⟨zv, by (with_reducible repeat (first | apply Kd.R_alloc | apply Kd.R_drewN | apply Kd.R_drew)); exact HO_0.out, zbo, by repeat (first | (with_reducible first | exact HK.out | apply Kept.alloc | apply Kept.drewN | apply Kept.drew) | exact HK.out)⟩
 rw [if_pos c3] at H
 have c3b0 : decide (x5_1 < (x0_1.length : Int)) = true := decide_eq_true c3
 clear c3
 have H' := Aside0.mk H
 clear H
 obtain ⟨Ao4, co4, eo4⟩ := Kd.R_slice HO_0.out
 subst eo4
 go_wp2
 go_loopg [1, 6] k1 (fun kq v1 v6 w' => ∃ (x0_2 : List (S74)) (x1_2 : Int) (x6_2 : Int), v1 = .int .i64 x1_2 ∧ v6 = .int .i64 x6_2 ∧ Aside0 (laws_markCellS.l1 kq x0_2 x1_2 x5_1 x6_2 = some (r1, r2)) ∧ Aside0 (kq ≤ k1) ∧ Aside0 (Kd.R k74 74 w' w0.heap.size (fun k_ => (P0_ k_ ∨ w.heap.size ≤ k_)) (.slice Ao4 x0_1.length co4) x0_2) ∧ Aside0 (Kept w w' (fun k_ => P0_ k_)) ∧ Aside0 (Below w0.heap.size w0 w'))
 case atStart => exact ⟨(x0_1), (x1_1), (0), zi, zi, H', ⟨Nat.le_refl _⟩, ze HO_0, ⟨by repeat (first | (with_reducible first | exact HK.out | apply Kept.alloc | apply Kept.drewN | apply Kept.drew) | exact HK.out)⟩, zl HB⟩
 clear H'
 try clear p2
 try clear c3
 try clear c3b0
 try clear p2
 obtain ⟨x0_2, x1_2, x6_2, rfl, rfl, HA, HK2, HO_0, HK, HB⟩ := hrel
 have hl0_2 := (Kd.R_reads' HO_0.out).1
 rw [hl0_2] at HO_0
 (try simp only [hl0_2])
 cases gk with
 | zero => exact absurd HA.out (by simp [laws_markCellS.l1])
 | succ k2 => ?_
 have H := HA.out
 clear HA
 simp only [laws_markCellS.l1] at H
 by_cases c5 : x6_2 < 2
 rotate_left
 ·rw [if_neg c5] at H
  have c5b0 : decide (x6_2 < 2) = false := decide_eq_false c5
  clear c5
  have H' := Aside0.mk H
  clear H
  go_wp2
  (try simp only [← hl0_2])
  go_roundg k2
  case measure => have := HK1.out; have := HK2.out; omega
  case rel => exact ⟨(x0_2), (x1_2), (wrap64 (x5_1 + 1)), zi, zi, H', ⟨by have := HK1.out; have := HK2.out; omega⟩, ⟨by (try simp only [hl0_2]); (with_reducible repeat (first | apply Kd.R_alloc | apply Kd.R_drewN | apply Kd.R_drew)); exact HO_0.out⟩, ⟨by repeat (first | (with_reducible first | exact HK.out | apply Kept.alloc | apply Kept.drewN | apply Kept.drew) | exact HK.out)⟩, zl HB⟩
 rw [if_pos c5] at H
 have c5b0 : decide (x6_2 < 2) = true := decide_eq_true c5
 clear c5
 by_cases c6 : 0 ≤ x5_1
 rotate_left
 ·rw [if_neg c6] at H
  exact absurd H (by simp)
 rw [if_pos c6] at H
 have c6b0 : decide (0 ≤ x5_1) = true := decide_eq_true c6
 clear c6
 by_cases c7 : x5_1 < (x0_2.length : Int)
 rotate_left
 ·rw [if_neg c7] at H
  exact absurd H (by simp)
 rw [if_pos c7] at H
 have c7b0 : decide (x5_1 < (x0_2.length : Int)) = true := decide_eq_true c7
 clear c7
 by_cases c9 : x6_2 = 0
 ·rw [if_pos c9] at H
  have Ac9 : Aside0 (x6_2 = 0) := ⟨c9⟩
  clear c9
  have ar10e : x6_2 = 0 := by first | exact (show Aside0 (x6_2 = 0) by assumption).out | exact beq_iff_eq.mp (by assumption) | omega
  have ar10n : (x6_2).toNat = 0 := by rw [ar10e]; rfl
  have ar10l : decide (0 ≤ x6_2) = true := decide_eq_true (by omega)
  have ar10L := eq_true (of_decide_eq_true ar10l)
  have ar10h : decide (x6_2 < 2) = true := decide_eq_true (by omega)
  have ar10H := eq_true (of_decide_eq_true ar10h)
  clear ar10e
  obtain ⟨y201, hy201⟩ : ∃ y_ : List (S74), y_ = (x0_2.set (x5_1 : Int).toNat (⟨IntKind.i8.wrap (x1_2), (rd_T74 x0_2 x5_1).f1⟩ : S74)) := ⟨_, rfl⟩
  replace H : (laws_markCellS.l1 k2 y201 (wrap64 (x1_2 + 1)) x5_1 (wrap64 (x6_2 + 1))) = some (r1, r2) := by first | (rw [hy201]; with_reducible exact H) | (have H2_ := (Option.bind_some _ _).symm.trans H; rw [hy201]; with_reducible exact H2_) | (have H2_ := (Option.bind_some _ _).symm.trans H; with_reducible exact H2_) | with_reducible exact H | (rw [hy201]; exact H) | exact H
  have Ny201 := Aside0.mk hy201
  clear hy201
  have H' := Aside0.mk H
  clear H
  have p8 : 0 ≤ (x5_1 : Int) := of_decide_eq_true zA
  have q8 : (x5_1 : Int) < ((x0_2.length : Int) : Int) := of_decide_eq_true zA
  obtain ⟨go8, co8, eo8, gb8, gl8, cl8, HG8⟩ := Kd.R_form HO_0.out (by omega)
  (first | cases eo8 | (injection eo8 with ea_ en_ ec_; (first | subst ea_ | (injection ea_ with ea_; subst ea_)); subst ec_; clear en_))
  have GB8 := Aside0.mk gb8
  have GG8 := Aside0.mk HG8
  clear gb8 gl8 HG8
  have HMgo8 := Aside0.mk (show (P0_ go8 ∨ w.heap.size ≤ go8) from (HO_0.out.1 _ rfl))
  obtain ⟨ce8, hcl8, hM8, hcc8, hfr8⟩ := Kd.R_elem HO_0.out z74 (x5_1 : Int) p8 q8
  obtain rfl := k74_openM hM8
  have hx8_0 : wr.cell? ⟨go8, (x5_1 : Int).toNat * 2, none⟩ = some (.int .i8 ((rd_T74 x0_2 x5_1).f0)) := hcc8 0 _ rfl
  have hx8_1 : wr.cell? ⟨go8, (x5_1 : Int).toNat * 2 + 1, none⟩ = some (.int .i8 ((rd_T74 x0_2 x5_1).f1)) := hcc8 1 _ rfl
  have hf8_0 : wr.frozen? ⟨go8, (x5_1 : Int).toNat * 2, none⟩ = false := hfr8 0
  have hf8_1 : wr.frozen? ⟨go8, (x5_1 : Int).toNat * 2 + 1, none⟩ = false := hfr8 1
  clear hcl8 hcc8 hfr8 hM8
  replace p8 := eq_true p8
  replace q8 := eq_true q8
  have HX11 := Aside0.mk (show Kd.R k74 74 wr w0.heap.size (fun k_ => (P0_ k_ ∨ w.heap.size ≤ k_)) (.slice (some ⟨go8, 0, none⟩) x0_2.length co4) x0_2 from (ze HO_0).out)
  obtain ⟨ce11, hcl11, hM11, hcc11, hfr11⟩ := Kd.R_elem HX11.out z74 (x5_1 : Int) (of_decide_eq_true zA) (zlt (x5_1 : Int) (x0_2.length : Int) (Kd.R_reads' HO_0.out).1)
  obtain rfl := k74_openM hM11
  have HP11 := Kd.R_seg HX11.out (x5_1 : Int) (of_decide_eq_true zA) (zlt (x5_1 : Int) (x0_2.length : Int) (Kd.R_reads' HO_0.out).1) (seg := [.int .i8 (IntKind.i8.wrap (x1_2))]) (j := 0) hcl11 hcc11 (show 1 ≤ 2 from by decide) (x' := (⟨IntKind.i8.wrap (x1_2), (rd_T74 x0_2 x5_1).f1⟩ : S74)) (k74_mkM _ _ _ (⟨IntKind.i8.wrap (x1_2), (rd_T74 x0_2 x5_1).f1⟩ : S74) ) (fun _ hk => hk)
  have hx11_0 := hcc11 0 _ rfl
  (try simp only [show (k74).sz = 2 from rfl, Nat.mul_one, Nat.add_zero] at hx11_0)
  have hf11_0 := hfr11 0
  (try simp only [show (k74).sz = 2 from rfl, Nat.mul_one, Nat.add_zero] at hf11_0)
  clear hcl11 hcc11 hfr11 hM11
  go_wp2_with (first | ((with_reducible refine gate_store (t := 22) (p := 23) rfl ?_); refine store_event (t := 22) (p := 23) (v := ?vo_w12) (w1 := (wr.setCell ⟨go8, (x5_1 : Int).toNat * 2, none⟩ (.int .i8 (IntKind.i8.wrap (x1_2))))) ?hg ?ho ?hn ?hr ?_; (case ho => rfl); (case hg => rfl); (case hn => rfl); (case hr => exact zgs); intro w12 hw; have hg : wr.grownBy w12 (some go8) := (by rw [hw]; exact HP11.2); have hp_ : Kd.R k74 74 w12 w0.heap.size (fun k_ => (P0_ k_ ∨ w.heap.size ≤ k_)) (.slice (some ⟨go8, 0, none⟩) x0_2.length co4) y201 := (by rw [hw, Ny201.out]; exact HP11.1); clear HP11; have n_ : _ ∧ _ ∧ _ := ⟨Aside0.mk (hp_), Aside0.mk ((by rw [hw]; exact below_set (HB.out) GB8.out : Below w0.heap.size w0 w12)), Aside0.mk (Kept.of_grown (S := (fun k_ => P0_ k_)) hg (by repeat (first | (with_reducible first | exact HK.out | apply Kept.alloc | apply Kept.drewN | apply Kept.drew) | exact HK.out)) (fun k_ e_ => (HO_0.out.1 k_ e_)))⟩; clear HO_0 HB HK; obtain ⟨HO_0, HB, HK⟩ := n_; clear hg hw hp_))
  (try simp only [← hl0_2])
  go_roundg k2
  case measure => have := HK1.out; have := HK2.out; omega
  case rel => exact ⟨(y201), (wrap64 (x1_2 + 1)), (wrap64 (x6_2 + 1)), zi, zi, H', ⟨by have := HK1.out; have := HK2.out; omega⟩, ⟨by (try simp only [hl0_2]); (with_reducible repeat (first | apply Kd.R_alloc | apply Kd.R_drewN | apply Kd.R_drew)); exact HO_0.out⟩, ⟨by repeat (first | (with_reducible first | exact HK.out | apply Kept.alloc | apply Kept.drewN | apply Kept.drew) | exact HK.out)⟩, zl HB⟩
 rw [if_neg c9] at H
 clear c9
 by_cases c13 : x6_2 = 1
 rotate_left
 ·rw [if_neg c13] at H
  exact absurd H (by simp)
 rw [if_pos c13] at H
 have Ac13 : Aside0 (x6_2 = 1) := ⟨c13⟩
 clear c13
 have ar14e : x6_2 = 1 := by first | exact (show Aside0 (x6_2 = 1) by assumption).out | exact beq_iff_eq.mp (by assumption) | omega
 have ar14n : (x6_2).toNat = 1 := by rw [ar14e]; rfl
 have ar14l : decide (0 ≤ x6_2) = true := decide_eq_true (by omega)
 have ar14L := eq_true (of_decide_eq_true ar14l)
 have ar14h : decide (x6_2 < 2) = true := decide_eq_true (by omega)
 have ar14H := eq_true (of_decide_eq_true ar14h)
 clear ar14e
 obtain ⟨y202, hy202⟩ : ∃ y_ : List (S74), y_ = (x0_2.set (x5_1 : Int).toNat (⟨(rd_T74 x0_2 x5_1).f0, IntKind.i8.wrap (x1_2)⟩ : S74)) := ⟨_, rfl⟩
 replace H : (laws_markCellS.l1 k2 y202 (wrap64 (x1_2 + 1)) x5_1 (wrap64 (x6_2 + 1))) = some (r1, r2) := by first | (rw [hy202]; with_reducible exact H) | (have H2_ := (Option.bind_some _ _).symm.trans H; rw [hy202]; with_reducible exact H2_) | (have H2_ := (Option.bind_some _ _).symm.trans H; with_reducible exact H2_) | with_reducible exact H | (rw [hy202]; exact H) | exact H
 have Ny202 := Aside0.mk hy202
 clear hy202
 have H' := Aside0.mk H
 clear H
 have p8 : 0 ≤ (x5_1 : Int) := of_decide_eq_true zA
 have q8 : (x5_1 : Int) < ((x0_2.length : Int) : Int) := of_decide_eq_true zA
 obtain ⟨go8, co8, eo8, gb8, gl8, cl8, HG8⟩ := Kd.R_form HO_0.out (by omega)
 (first | cases eo8 | (injection eo8 with ea_ en_ ec_; (first | subst ea_ | (injection ea_ with ea_; subst ea_)); subst ec_; clear en_))
 have GB8 := Aside0.mk gb8
 have GG8 := Aside0.mk HG8
 clear gb8 gl8 HG8
 have HMgo8 := Aside0.mk (show (P0_ go8 ∨ w.heap.size ≤ go8) from (HO_0.out.1 _ rfl))
 obtain ⟨ce8, hcl8, hM8, hcc8, hfr8⟩ := Kd.R_elem HO_0.out z74 (x5_1 : Int) p8 q8
 obtain rfl := k74_openM hM8
 have hx8_0 : wr.cell? ⟨go8, (x5_1 : Int).toNat * 2, none⟩ = some (.int .i8 ((rd_T74 x0_2 x5_1).f0)) := hcc8 0 _ rfl
 have hx8_1 : wr.cell? ⟨go8, (x5_1 : Int).toNat * 2 + 1, none⟩ = some (.int .i8 ((rd_T74 x0_2 x5_1).f1)) := hcc8 1 _ rfl
 have hf8_0 : wr.frozen? ⟨go8, (x5_1 : Int).toNat * 2, none⟩ = false := hfr8 0
 have hf8_1 : wr.frozen? ⟨go8, (x5_1 : Int).toNat * 2 + 1, none⟩ = false := hfr8 1
 clear hcl8 hcc8 hfr8 hM8
 replace p8 := eq_true p8
 replace q8 := eq_true q8
 have HX15 := Aside0.mk (show Kd.R k74 74 wr w0.heap.size (fun k_ => (P0_ k_ ∨ w.heap.size ≤ k_)) (.slice (some ⟨go8, 0, none⟩) x0_2.length co4) x0_2 from (ze HO_0).out)
 obtain ⟨ce15, hcl15, hM15, hcc15, hfr15⟩ := Kd.R_elem HX15.out z74 (x5_1 : Int) (of_decide_eq_true zA) (zlt (x5_1 : Int) (x0_2.length : Int) (Kd.R_reads' HO_0.out).1)
 obtain rfl := k74_openM hM15
 have HP15 := Kd.R_seg HX15.out (x5_1 : Int) (of_decide_eq_true zA) (zlt (x5_1 : Int) (x0_2.length : Int) (Kd.R_reads' HO_0.out).1) (seg := [.int .i8 (IntKind.i8.wrap (x1_2))]) (j := 1) hcl15 hcc15 (show 2 ≤ 2 from by decide) (x' := (⟨(rd_T74 x0_2 x5_1).f0, IntKind.i8.wrap (x1_2)⟩ : S74)) (k74_mkM _ _ _ (⟨(rd_T74 x0_2 x5_1).f0, IntKind.i8.wrap (x1_2)⟩ : S74) ) (fun _ hk => hk)
 have hx15_1 := hcc15 1 _ rfl
 (try simp only [show (k74).sz = 2 from rfl, Nat.mul_one, Nat.add_zero] at hx15_1)
 have hf15_1 := hfr15 1
 (try simp only [show (k74).sz = 2 from rfl, Nat.mul_one, Nat.add_zero] at hf15_1)
 clear hcl15 hcc15 hfr15 hM15
 go_wp2_with (first | ((with_reducible refine gate_store (t := 22) (p := 23) rfl ?_); refine store_event (t := 22) (p := 23) (v := ?vo_w16) (w1 := (wr.setCell ⟨go8, (x5_1 : Int).toNat * 2 + 1, none⟩ (.int .i8 (IntKind.i8.wrap (x1_2))))) ?hg ?ho ?hn ?hr ?_; (case ho => rfl); (case hg => rfl); (case hn => rfl); (case hr => exact zgs); intro w16 hw; have hg : wr.grownBy w16 (some go8) := (by rw [hw]; exact HP15.2); have hp_ : Kd.R k74 74 w16 w0.heap.size (fun k_ => (P0_ k_ ∨ w.heap.size ≤ k_)) (.slice (some ⟨go8, 0, none⟩) x0_2.length co4) y202 := (by rw [hw, Ny202.out]; exact HP15.1); clear HP15; have n_ : _ ∧ _ ∧ _ := ⟨Aside0.mk (hp_), Aside0.mk ((by rw [hw]; exact below_set (HB.out) GB8.out : Below w0.heap.size w0 w16)), Aside0.mk (Kept.of_grown (S := (fun k_ => P0_ k_)) hg (by repeat (first | (with_reducible first | exact HK.out | apply Kept.alloc | apply Kept.drewN | apply Kept.drew) | exact HK.out)) (fun k_ e_ => (HO_0.out.1 k_ e_)))⟩; clear HO_0 HB HK; obtain ⟨HO_0, HB, HK⟩ := n_; clear hg hw hp_))
 (try simp only [← hl0_2])
 go_roundg k2
 case measure => have := HK1.out; have := HK2.out; omega
 case rel => exact ⟨(y202), (wrap64 (x1_2 + 1)), (wrap64 (x6_2 + 1)), zi, zi, H', ⟨by have := HK1.out; have := HK2.out; omega⟩, ⟨by (try simp only [hl0_2]); (with_reducible repeat (first | apply Kd.R_alloc | apply Kd.R_drewN | apply Kd.R_drew)); exact HO_0.out⟩, ⟨by repeat (first | (with_reducible first | exact HK.out | apply Kept.alloc | apply Kept.drewN | apply Kept.drew) | exact HK.out)⟩, zl HB⟩
def laws_markMachine.f (k : Nat) (a0_0 : Int) (a0_1 : Int) (l0_2 : List (S91)) (l0_3 : List (S116)) (l0_4 : List (S74)) (a1 : Int) : Option (Int × (List (S91)) × (List (S116)) × (List (S74))) := (laws_markBoard.f k a0_0 a0_1 l0_2 a1).bind fun bt204 => ((laws_markPortS.f k l0_3 bt204.1).bind fun bt206 => ((laws_markCellS.f k l0_4 bt206.1).bind fun bt208 => (some (bt208.1, bt204.2, bt206.2, bt208.2))))
theorem laws_markMachine.mono : ∀ a0 a1 a2 a3 a4 a5 k, LeO (laws_markMachine.f k a0 a1 a2 a3 a4 a5) (laws_markMachine.f (k + 1) a0 a1 a2 a3 a4 a5) := by
 intro a0 a1 a2 a3 a4 a5 k
 unfold laws_markMachine.f
 repeat' first | (with_reducible first | apply laws_markBoard.mono | apply laws_markCellS.mono | apply laws_markPortS.mono | exact LeO.refl _ | exact LeO.none _ | refine LeO.ite ?_ ?_ | refine LeO.bind ?_ (fun _ => ?_)) | apply laws_markBoard.mono | apply laws_markCellS.mono | apply laws_markPortS.mono | exact LeO.none _ | refine LeO.ite ?_ ?_ | refine LeO.bind ?_ (fun _ => ?_)
theorem laws_markMachine.calls (k : Nat) (a0_0 : Int) (a0_1 : Int) (P0_2_ : Nat → Prop) (u9000_ : Value) (l0_2 : List (S91)) (P0_3_ : Nat → Prop) (u9001_ : Value) (l0_3 : List (S116)) (P0_4_ : Nat → Prop) (u9002_ : Value) (l0_4 : List (S74)) (a1 : Int) (r1 : Int) (r2 : List (S91)) (r3 : List (S116)) (r4 : List (S74)) (w0 w : World) (hB : Below w0.heap.size w0 w) (ho0_2 : Kd.R k91 91 w w0.heap.size P0_2_ u9000_ l0_2) (ho0_3 : Kd.R k116 116 w w0.heap.size P0_3_ u9001_ l0_3) (ho0_4 : Kd.R k74 74 w w0.heap.size P0_4_ u9002_ l0_4) (h : laws_markMachine.f k a0_0 a0_1 l0_2 l0_3 l0_4 a1 = some (r1, r2, r3, r4)) :
    Calls Try.prog 29 #[.agg #[.int .i8 a0_0, .int .i8 a0_1, u9000_, u9001_, u9002_], .int .i64 a1] w fun e w' => e = .returned (.int .i64 r1) ∧ Kd.R k91 91 w' w0.heap.size (fun k_ => ((P0_2_ k_ ∨ P0_3_ k_ ∨ P0_4_ k_) ∨ w.heap.size ≤ k_)) u9000_ r2 ∧ Kd.R k116 116 w' w0.heap.size (fun k_ => ((P0_2_ k_ ∨ P0_3_ k_ ∨ P0_4_ k_) ∨ w.heap.size ≤ k_)) u9001_ r3 ∧ Kd.R k74 74 w' w0.heap.size (fun k_ => ((P0_2_ k_ ∨ P0_3_ k_ ∨ P0_4_ k_) ∨ w.heap.size ≤ k_)) u9002_ r4 ∧ Below w0.heap.size w0 w' ∧ Kept w w' (fun k_ => P0_2_ k_ ∨ P0_3_ k_ ∨ P0_4_ k_) := by
 have hu41 := Try.underlying41
 have hu37 := Try.underlying37
 have HO0_2 := Aside0.mk (show Kd.R k91 91 w w0.heap.size (fun k_ => ((P0_2_ k_ ∨ P0_3_ k_ ∨ P0_4_ k_) ∨ w.heap.size ≤ k_)) u9000_ l0_2 from Kd.R_mono ho0_2 (fun k_ hk => (.inl (.inl hk))))
 have HO0_3 := Aside0.mk (show Kd.R k116 116 w w0.heap.size (fun k_ => ((P0_2_ k_ ∨ P0_3_ k_ ∨ P0_4_ k_) ∨ w.heap.size ≤ k_)) u9001_ l0_3 from Kd.R_mono ho0_3 (fun k_ hk => (.inl (.inr (.inl hk)))))
 have HO0_4 := Aside0.mk (show Kd.R k74 74 w w0.heap.size (fun k_ => ((P0_2_ k_ ∨ P0_3_ k_ ∨ P0_4_ k_) ∨ w.heap.size ≤ k_)) u9002_ l0_4 from Kd.R_mono ho0_4 (fun k_ hk => (.inl (.inr (.inr hk)))))
 have HK := Aside0.mk (Kept.refl w (fun k_ => P0_2_ k_ ∨ P0_3_ k_ ∨ P0_4_ k_))
 have HW0 := Aside0.mk hB.size
 have HB := Aside0.mk hB
 clear hB
 have H : ((laws_markBoard.f k a0_0 a0_1 l0_2 a1).bind fun bt204 => ((laws_markPortS.f k l0_3 bt204.1).bind fun bt206 => ((laws_markCellS.f k l0_4 bt206.1).bind fun bt208 => (some (bt208.1, bt204.2, bt206.2, bt208.2))))) = some (r1, r2, r3, r4) := h
 clear h
 replace H := zob H
 obtain ⟨⟨t204, t205⟩, A30, H⟩ := H
 replace H : ((laws_markPortS.f k l0_3 t204).bind fun bt206 => ((laws_markCellS.f k l0_4 bt206.1).bind fun bt208 => (some (bt208.1, t205, bt206.2, bt208.2)))) = some (r1, r2, r3, r4) := H
 have A3 := Aside0.mk A30
 clear A30
 replace H := zob H
 obtain ⟨⟨t206, t207⟩, A40, H⟩ := H
 replace H : ((laws_markCellS.f k l0_4 t206).bind fun bt208 => (some (bt208.1, t205, t207, bt208.2))) = some (r1, r2, r3, r4) := H
 have A4 := Aside0.mk A40
 clear A40
 replace H := zob H
 obtain ⟨⟨t208, t209⟩, A50, H⟩ := H
 replace H : (some (t208, t205, t207, t209)) = some (r1, r2, r3, r4) := H
 have A5 := Aside0.mk A50
 clear A50
 simp only [Option.some.injEq, Prod.mk.injEq] at H
 obtain ⟨rfl, rfl, rfl, rfl⟩ := H
 obtain ⟨Ao6, co6, eo6⟩ := Kd.R_slice HO0_2.out
 subst eo6
 obtain ⟨Ao7, co7, eo7⟩ := Kd.R_slice HO0_3.out
 subst eo7
 obtain ⟨Ao8, co8, eo8⟩ := Kd.R_slice HO0_4.out
 subst eo8
 go_enter Try.func29, Try.ntmps29
 go_wp2_with (first | ((with_reducible refine gate_dst (N := 2) rfl ?_); refine zbx 2 #[.int .i8 a0_0, .int .i8 a0_1, .slice Ao6 l0_2.length co6, .slice Ao7 l0_3.length co7, .slice Ao8 l0_4.length co8] 41 ?_; intro gb203 hg w9 hbox hb; have n_ : _ ∧ _ ∧ _ ∧ _ ∧ _ ∧ _ ∧ _ ∧ _ := ⟨zr HO0_2 hb, zr HO0_3 hb, zr HO0_4 hb, Aside0.mk (Kept.below (S := (fun k_ => P0_2_ k_ ∨ P0_3_ k_ ∨ P0_4_ k_)) (by repeat (first | (with_reducible first | exact HK.out | apply Kept.alloc | apply Kept.drewN | apply Kept.drew) | exact HK.out)) hb), zb HB hb, Aside0.mk (hbox), Aside0.mk ((by rw [hg]; exact (by first | exact HK.out.1 | exact (show Kept w _ (fun k_ => P0_2_ k_ ∨ P0_3_ k_ ∨ P0_4_ k_) from by repeat (first | (with_reducible first | exact HK.out | apply Kept.alloc | apply Kept.drewN | apply Kept.drew) | exact HK.out)).1) : w.heap.size ≤ gb203)), Aside0.mk ((by rw [hg]; exact (zz HB) : w0.heap.size ≤ gb203))⟩; clear HO0_2 HO0_3 HO0_4 HK HB; obtain ⟨HO0_2, HO0_3, HO0_4, HK, HB, BK203, GW203, GE203⟩ := n_; clear hb hbox hg; obtain ⟨z10_0, z10_1, z10_2, z10_3, z10_4, y10_0, y10_1, y10_2, y10_3, y10_4⟩ := zB5 BK203) | ((with_reducible refine gate_callee (f := 50) rfl ?_); refine goesL_ (some 8) rfl rfl Try.func50 (by kernel_rfl) rfl #[.agg #[.int .i8 a0_0, .int .i8 a0_1, .slice Ao6 l0_2.length co6], .int .i64 a1] rfl zm ?_; (with_reducible refine (laws_markBoard.calls k a0_0 a0_1 (fun k_ => some k_ = (.slice Ao6 l0_2.length co6 : Value).ownBlock) (.slice Ao6 l0_2.length co6) l0_2 a1 t204 t205 w0 _ ?side1 ?side2 A3.out).mono ?_); (case side1 => exact zbo); (case side2 => exact Kd.R_tight rfl HO0_2.out); rintro e w11 ⟨rfl, hy0, hb, hkp⟩; refine ⟨_, rfl, ?_⟩; have n_ : _ ∧ _ ∧ _ ∧ _ ∧ _ ∧ _ := ⟨Aside0.mk (Kd.R_reok rfl hy0 (fun k_ e_ => HO0_2.out.1 k_ e_)), Aside0.mk (Kd.R_mono (ok' := fun k_ => ((P0_2_ k_ ∨ P0_3_ k_ ∨ P0_4_ k_) ∨ w.heap.size ≤ k_)) (Kd.R_keptB ((Kd.R_apart' HO0_3.out (Kd.R_typed HO0_2.out) (by decide))) hkp (fun k_ hk_ hs_ => (hk_.2) hs_)) (fun k_ hk_ => hk_.1.1)), Aside0.mk (Kd.R_mono (ok' := fun k_ => ((P0_2_ k_ ∨ P0_3_ k_ ∨ P0_4_ k_) ∨ w.heap.size ≤ k_)) (Kd.R_keptB ((Kd.R_apart' HO0_4.out (Kd.R_typed HO0_2.out) (by decide))) hkp (fun k_ hk_ hs_ => (hk_.2) hs_)) (fun k_ hk_ => hk_.1.1)), zkr BK203 hkp (fun hs_ => (fun e_ => (Kd.R_ne HO0_2.out BK203.out (by decide)) e_) hs_), Aside0.mk (Kept.then_ (S := (fun k_ => P0_2_ k_ ∨ P0_3_ k_ ∨ P0_4_ k_)) (by repeat (first | (with_reducible first | exact HK.out | apply Kept.alloc | apply Kept.drewN | apply Kept.drew | refine Kept.setCell ?_ (.inr GW203.out) _) | exact HK.out)) hkp (fun k_ hs_ => (fun e_ => (HO0_2.out.1 k_ e_.symm)) hs_)), Aside0.mk (hb)⟩; clear HO0_2 HO0_3 HO0_4 BK203 HK HB; obtain ⟨HO0_2, HO0_3, HO0_4, BK203, HK, HB⟩ := n_; (try clear hb); (try clear hkp); (try clear hy0); obtain ⟨z12_0, z12_1, z12_2, z12_3, z12_4, y12_0, y12_1, y12_2, y12_3, y12_4⟩ := zB5 BK203) | ((with_reducible refine gate_callee (f := 94) rfl ?_); refine goesL_ (some 12) rfl rfl Try.func94 (by kernel_rfl) rfl #[.slice Ao7 l0_3.length co7, .int .i64 t204] rfl zm ?_; (with_reducible refine (laws_markPortS.calls k (fun k_ => some k_ = (.slice Ao7 l0_3.length co7 : Value).ownBlock) (.slice Ao7 l0_3.length co7) l0_3 t204 t206 t207 w0 _ ?side1 ?side2 A4.out).mono ?_); (case side1 => exact zbo); (case side2 => exact Kd.R_tight rfl HO0_3.out); rintro e w13 ⟨rfl, hy0, hb, hkp⟩; refine ⟨_, rfl, ?_⟩; have n_ : _ ∧ _ ∧ _ ∧ _ ∧ _ ∧ _ := ⟨Aside0.mk (Kd.R_mono (ok' := fun k_ => ((P0_2_ k_ ∨ P0_3_ k_ ∨ P0_4_ k_) ∨ w.heap.size ≤ k_)) (Kd.R_keptB ((Kd.R_apart' HO0_2.out (Kd.R_typed HO0_3.out) (by decide))) hkp (fun k_ hk_ hs_ => (hk_.2) hs_)) (fun k_ hk_ => hk_.1.1)), Aside0.mk (Kd.R_reok rfl hy0 (fun k_ e_ => HO0_3.out.1 k_ e_)), Aside0.mk (Kd.R_mono (ok' := fun k_ => ((P0_2_ k_ ∨ P0_3_ k_ ∨ P0_4_ k_) ∨ w.heap.size ≤ k_)) (Kd.R_keptB ((Kd.R_apart' HO0_4.out (Kd.R_typed HO0_3.out) (by decide))) hkp (fun k_ hk_ hs_ => (hk_.2) hs_)) (fun k_ hk_ => hk_.1.1)), zkr BK203 hkp (fun hs_ => (fun e_ => (Kd.R_ne HO0_3.out BK203.out (by decide)) e_) hs_), Aside0.mk (Kept.then_ (S := (fun k_ => P0_2_ k_ ∨ P0_3_ k_ ∨ P0_4_ k_)) (by repeat (first | (with_reducible first | exact HK.out | apply Kept.alloc | apply Kept.drewN | apply Kept.drew | refine Kept.setCell ?_ (.inr GW203.out) _) | exact HK.out)) hkp (fun k_ hs_ => (fun e_ => (HO0_3.out.1 k_ e_.symm)) hs_)), Aside0.mk (hb)⟩; clear HO0_2 HO0_3 HO0_4 BK203 HK HB; obtain ⟨HO0_2, HO0_3, HO0_4, BK203, HK, HB⟩ := n_; (try clear hb); (try clear hkp); (try clear hy0); obtain ⟨z14_0, z14_1, z14_2, z14_3, z14_4, y14_0, y14_1, y14_2, y14_3, y14_4⟩ := zB5 BK203) | ((with_reducible refine gate_callee (f := 95) rfl ?_); refine goesL_ (some 16) rfl rfl Try.func95 (by kernel_rfl) rfl #[.slice Ao8 l0_4.length co8, .int .i64 t206] rfl zm ?_; (with_reducible refine (laws_markCellS.calls k (fun k_ => some k_ = (.slice Ao8 l0_4.length co8 : Value).ownBlock) (.slice Ao8 l0_4.length co8) l0_4 t206 t208 t209 w0 _ ?side1 ?side2 A5.out).mono ?_); (case side1 => exact zbo); (case side2 => exact Kd.R_tight rfl HO0_4.out); rintro e w15 ⟨rfl, hy0, hb, hkp⟩; refine ⟨_, rfl, ?_⟩; have n_ : _ ∧ _ ∧ _ ∧ _ ∧ _ ∧ _ := ⟨Aside0.mk (Kd.R_mono (ok' := fun k_ => ((P0_2_ k_ ∨ P0_3_ k_ ∨ P0_4_ k_) ∨ w.heap.size ≤ k_)) (Kd.R_keptB ((Kd.R_apart' HO0_2.out (Kd.R_typed HO0_4.out) (by decide))) hkp (fun k_ hk_ hs_ => (hk_.2) hs_)) (fun k_ hk_ => hk_.1.1)), Aside0.mk (Kd.R_mono (ok' := fun k_ => ((P0_2_ k_ ∨ P0_3_ k_ ∨ P0_4_ k_) ∨ w.heap.size ≤ k_)) (Kd.R_keptB ((Kd.R_apart' HO0_3.out (Kd.R_typed HO0_4.out) (by decide))) hkp (fun k_ hk_ hs_ => (hk_.2) hs_)) (fun k_ hk_ => hk_.1.1)), Aside0.mk (Kd.R_reok rfl hy0 (fun k_ e_ => HO0_4.out.1 k_ e_)), zkr BK203 hkp (fun hs_ => (fun e_ => (Kd.R_ne HO0_4.out BK203.out (by decide)) e_) hs_), Aside0.mk (Kept.then_ (S := (fun k_ => P0_2_ k_ ∨ P0_3_ k_ ∨ P0_4_ k_)) (by repeat (first | (with_reducible first | exact HK.out | apply Kept.alloc | apply Kept.drewN | apply Kept.drew | refine Kept.setCell ?_ (.inr GW203.out) _) | exact HK.out)) hkp (fun k_ hs_ => (fun e_ => (HO0_4.out.1 k_ e_.symm)) hs_)), Aside0.mk (hb)⟩; clear HO0_2 HO0_3 HO0_4 BK203 HK HB; obtain ⟨HO0_2, HO0_3, HO0_4, BK203, HK, HB⟩ := n_; (try clear hb); (try clear hkp); (try clear hy0)))
 go_ret
 exact ⟨zv, by (with_reducible repeat (first | apply Kd.R_alloc | apply Kd.R_drewN | apply Kd.R_drew)); exact HO0_2.out, by (with_reducible repeat (first | apply Kd.R_alloc | apply Kd.R_drewN | apply Kd.R_drew)); exact HO0_3.out, by (with_reducible repeat (first | apply Kd.R_alloc | apply Kd.R_drewN | apply Kd.R_drew)); exact HO0_4.out, zbo, by repeat (first | (with_reducible first | exact HK.out | apply Kept.alloc | apply Kept.drewN | apply Kept.drew | refine Kept.setCell ?_ (.inr GW203.out) _) | exact HK.out)⟩
def spec_l00In.f (a0 : Int) (a1 : Int) (a2 : Int) : Option (Bool) := if a0 ≥ a1 then (some (decide (a0 ≤ a2))) else (some false)
theorem spec_l00In.calls (a0 : Int) (a1 : Int) (a2 : Int) (r : Bool) (w : World) (h : spec_l00In.f a0 a1 a2 = some r) :
    Calls Try.prog 96 #[.int .i64 a0, .int .i64 a1, .int .i64 a2] w fun e w' => e = .returned (.bool r) ∧ Drawn0 w w' := by
 have H : (if a0 ≥ a1 then (some (decide (a0 ≤ a2))) else (some false)) = some r := h
 clear h
 by_cases c4 : a0 ≥ a1
 ·rw [if_pos c4] at H
  have c4b0 : decide (a1 ≤ a0) = true := decide_eq_true c4
  clear c4
  obtain rfl := Option.some.inj H
  go_enter Try.func96, Try.ntmps96
  go_wp2
  go_ret
  exact ⟨zi, zdr⟩
 rw [if_neg c4] at H
 have c4b0 : decide (a1 ≤ a0) = false := decide_eq_false c4
 clear c4
 obtain rfl := Option.some.inj H
 go_enter Try.func96, Try.ntmps96
 go_wp2
 go_ret
 exact ⟨zi, zdr⟩
def spec_l01Find.l0 : Nat → List (S37) → Int → Int → Int → Option (Int)
  | 0, _, _, _, _ => none
  | k + 1, x0, x5, x211000, x211001 => if 0 < (x0.length : Int) then (if x5 < (((rd_T37 x0 0).f2).length : Int) then (if 0 ≤ x5 then (if (((rd_T91 ((rd_T37 x0 0).f2) x5).f0.f0) == x211000 && (((rd_T91 ((rd_T37 x0 0).f2) x5).f0.f1) == x211001)) = true then (some x5) else (spec_l01Find.l0 k x0 (wrap64 (x5 + 1)) x211000 x211001)) else (none)) else (some (-1))) else (none)
def spec_l01Find.f (k : Nat) (l0 : List (S37)) (a1_0 : Int) (a1_1 : Int) : Option (Int) := spec_l01Find.l0 k l0 0 a1_0 a1_1
theorem spec_l01Find.mono_l : ∀ k, (∀ y0 y1 y2 y3, LeO (spec_l01Find.l0 k y0 y1 y2 y3) (spec_l01Find.l0 (k + 1) y0 y1 y2 y3))
  | 0 => fun _ _ _ _ r h => by simp [spec_l01Find.l0] at h
  | k + 1 => by
    have ih0 := spec_l01Find.mono_l k
    · intro y0 y1 y2 y3
      unfold spec_l01Find.l0
      repeat' first | (with_reducible first | apply ih0 | exact LeO.refl _ | exact LeO.none _ | refine LeO.ite ?_ ?_ | refine LeO.bind ?_ (fun _ => ?_)) | apply ih0 | exact LeO.none _ | refine LeO.ite ?_ ?_ | refine LeO.bind ?_ (fun _ => ?_)
theorem spec_l01Find.mono : ∀ a0 a1 a2 k, LeO (spec_l01Find.f k a0 a1 a2) (spec_l01Find.f (k + 1) a0 a1 a2) := by
 intro a0 a1 a2 k
 have ih0 := spec_l01Find.mono_l k
 unfold spec_l01Find.f
 repeat' first | (with_reducible first | apply ih0 | exact LeO.refl _ | exact LeO.none _ | refine LeO.ite ?_ ?_ | refine LeO.bind ?_ (fun _ => ?_)) | apply ih0 | exact LeO.none _ | refine LeO.ite ?_ ?_ | refine LeO.bind ?_ (fun _ => ?_)
theorem spec_l01Find.calls (k : Nat) (adp0 : Addr) (l0 : List (S37)) (a1_0 : Int) (a1_1 : Int) (r : Int) (w : World) (hr0 : Kd.C k37 w (some adp0) l0.length l0) (h : spec_l01Find.f k l0 a1_0 a1_1 = some r) :
    Calls Try.prog 111 #[.pointer (some adp0), .agg #[.int .i8 a1_0, .int .i8 a1_1]] w fun e w' => e = .returned (.int .i64 r) ∧ Below w.heap.size w w' := by
 have hu74 := Try.underlying74
 have HR0 := Aside0.mk hr0
 clear hr0
 have HB := Aside0.mk (Below.refl w.heap.size w)
 have H : (spec_l01Find.l0 k l0 0 a1_0 a1_1) = some r := h
 clear h
 have H' := Aside0.mk H
 clear H
 go_enter Try.func111, Try.ntmps111
 go_wp2_with (first | ((with_reducible refine gate_dst (N := 3) rfl ?_); refine zbx 3 #[.int .i8 a1_0, .int .i8 a1_1] 74 ?_; intro gb210 hg w3 hbox hb; have n_ : _ ∧ _ ∧ _ ∧ _ := ⟨zb HB hb, Aside0.mk (hbox), zg HB hg, zg HB hg⟩; clear HB; obtain ⟨HB, BK210, GW210, GE210⟩ := n_; clear hb hbox hg) | go_quiet (fail))
 go_loopg [5] k (fun kq v5 w' => ∃ (x5_1 : Int), v5 = .int .i64 x5_1 ∧ Aside0 (spec_l01Find.l0 kq l0 x5_1 a1_0 a1_1 = some r) ∧ Aside0 (kq ≤ k) ∧ Aside0 (w'.heap[gb210]? = some (.cells #[.int .i8 a1_0, .int .i8 a1_1] 74 (0, 0))) ∧ Aside0 (Below w.heap.size w w'))
 case atStart => exact ⟨(0), zi, H', ⟨Nat.le_refl _⟩, zh BK210, zba⟩
 clear H'
 try clear c1
 try clear p2
 obtain ⟨x5_1, rfl, HA, HK1, BK210, HB⟩ := hrel
 cases gk with
 | zero => exact absurd HA.out (by simp [spec_l01Find.l0])
 | succ k1 => ?_
 have H := HA.out
 clear HA
 simp only [spec_l01Find.l0] at H
 by_cases c4 : 0 < (l0.length : Int)
 rotate_left
 ·rw [if_neg c4] at H
  exact absurd H (by simp)
 rw [if_pos c4] at H
 have c4b0 : decide (0 < (l0.length : Int)) = true := decide_eq_true c4
 have c4b1 : decide (0 < l0.length) = true := decide_eq_true (by omega)
 clear c4
 by_cases c5 : x5_1 < (((rd_T37 l0 0).f2).length : Int)
 rotate_left
 ·rw [if_neg c5] at H
  have c5b0 : decide (x5_1 < (((rd_T37 l0 0).f2).length : Int)) = false := decide_eq_false c5
  clear c5
  obtain rfl := Option.some.inj H
  have p211 : 0 ≤ (0 : Int) := (by omega)
  have q211 : 0 < (l0.length : Int) := of_decide_eq_true zA
  obtain ⟨ad211, A211_2, c211_2, e211, hx211_0, hx211_1, hx211_2, hl211_2, hi211_2⟩ := at_T37 HR0.out 0 p211 q211
  obtain rfl : adp0 = ad211 := (by injection e211)
  have qi211 : (0 < l0.length) = True := eq_true (by omega)
  try simp only [z00, Nat.zero_mul, Addr.add_zero'] at hx211_0 hx211_1 hx211_2
  replace hx211_0 := zc HB hx211_0
  replace hx211_1 := zc HB hx211_1
  replace hx211_2 := zc HB hx211_2
  have HR211_2 := Aside0.mk hi211_2
  have HC211_2 := Aside0.mk hl211_2
  clear hi211_2 hl211_2
  replace p211 := eq_true p211
  replace q211 := eq_true q211
  go_wp2
  repeat (go_quiet (fail); try go_wp2)
  go_ret
  exact ⟨zv, zbo⟩
 rw [if_pos c5] at H
 have c5b0 : decide (x5_1 < (((rd_T37 l0 0).f2).length : Int)) = true := decide_eq_true c5
 clear c5
 by_cases c6 : 0 ≤ x5_1
 rotate_left
 ·rw [if_neg c6] at H
  exact absurd H (by simp)
 rw [if_pos c6] at H
 have c6b0 : decide (0 ≤ x5_1) = true := decide_eq_true c6
 clear c6
 by_cases c7 : (((rd_T91 ((rd_T37 l0 0).f2) x5_1).f0.f0) == a1_0 && (((rd_T91 ((rd_T37 l0 0).f2) x5_1).f0.f1) == a1_1)) = true
 ·rw [if_pos c7] at H
  have c7b0 : (((rd_T91 ((rd_T37 l0 0).f2) x5_1).f0.f0) == a1_0 && (((rd_T91 ((rd_T37 l0 0).f2) x5_1).f0.f1) == a1_1)) = true := c7
  (try (have c7b1 : decide (((rd_T91 ((rd_T37 l0 0).f2) x5_1).f0.f0) = a1_0 && (((rd_T91 ((rd_T37 l0 0).f2) x5_1).f0.f1) == a1_1)) = true := by first | (simpa using c7) | (have h_ := c7; revert h_; cases ((rd_T91 ((rd_T37 l0 0).f2) x5_1).f0.f0) <;> cases a1_0 && (((rd_T91 ((rd_T37 l0 0).f2) x5_1).f0.f1) == a1_1) <;> decide)))
  (try (have c7b2 : (((rd_T91 ((rd_T37 l0 0).f2) x5_1).f0.f0) == a1_0 && (((rd_T91 ((rd_T37 l0 0).f2) x5_1).f0.f1) == a1_1)) = true := by first | (simpa using c7) | (have h_ := c7; revert h_; cases ((rd_T91 ((rd_T37 l0 0).f2) x5_1).f0.f0) <;> cases a1_0 && (((rd_T91 ((rd_T37 l0 0).f2) x5_1).f0.f1) == a1_1) <;> decide)))
  clear c7
  obtain rfl := Option.some.inj H
  have p211 : 0 ≤ (0 : Int) := (by omega)
  have q211 : 0 < (l0.length : Int) := of_decide_eq_true zA
  obtain ⟨ad211, A211_2, c211_2, e211, hx211_0, hx211_1, hx211_2, hl211_2, hi211_2⟩ := at_T37 HR0.out 0 p211 q211
  obtain rfl : adp0 = ad211 := (by injection e211)
  have qi211 : (0 < l0.length) = True := eq_true (by omega)
  try simp only [z00, Nat.zero_mul, Addr.add_zero'] at hx211_0 hx211_1 hx211_2
  replace hx211_0 := zc HB hx211_0
  replace hx211_1 := zc HB hx211_1
  replace hx211_2 := zc HB hx211_2
  have HR211_2 := Aside0.mk hi211_2
  have HC211_2 := Aside0.mk hl211_2
  clear hi211_2 hl211_2
  replace p211 := eq_true p211
  replace q211 := eq_true q211
  have p212 : 0 ≤ (0 : Int) := (by omega)
  have q212 : 0 < (l0.length : Int) := of_decide_eq_true zA
  obtain ⟨ad212, A212_2, c212_2, e212, hx212_0, hx212_1, hx212_2, hl212_2, hi212_2⟩ := at_T37 HR0.out 0 p212 q212
  obtain rfl : adp0 = ad212 := (by injection e212)
  have qi212 : (0 < l0.length) = True := eq_true (by omega)
  try simp only [z00, Nat.zero_mul, Addr.add_zero'] at hx212_0 hx212_1 hx212_2
  replace hx212_0 := zc HB hx212_0
  replace hx212_1 := zc HB hx212_1
  replace hx212_2 := zc HB hx212_2
  have HR212_2 := Aside0.mk hi212_2
  have HC212_2 := Aside0.mk hl212_2
  clear hi212_2 hl212_2
  replace p212 := eq_true p212
  replace q212 := eq_true q212
  have ea_ := Option.some.inj (hx211_2.symm.trans hx212_2)
  injection ea_ with ea_ en_ ec_
  subst ea_
  subst ec_
  clear en_
  have p213 : 0 ≤ (x5_1 : Int) := of_decide_eq_true zA
  have q213 : x5_1 < (((rd_T37 l0 0).f2).length : Int) := of_decide_eq_true zA
  obtain ⟨ad213, e213, hx213_0, hx213_1, hx213_2, hx213_3, hx213_4⟩ := at_T91 HR212_2.out x5_1 p213 q213
  cases e213
  replace hx213_0 := zc HB hx213_0
  replace hx213_1 := zc HB hx213_1
  replace hx213_2 := zc HB hx213_2
  replace hx213_3 := zc HB hx213_3
  replace hx213_4 := zc HB hx213_4
  replace p213 := eq_true p213
  replace q213 := eq_true q213
  obtain ⟨z8_0, z8_1, y8_0, y8_1⟩ := zB2 BK210
  go_wp2
  repeat (go_quiet (fail); try go_wp2)
  go_ret
  exact ⟨zv, zbo⟩
 rw [if_neg c7] at H
 have c7b0 : (((rd_T91 ((rd_T37 l0 0).f2) x5_1).f0.f0) == a1_0 && (((rd_T91 ((rd_T37 l0 0).f2) x5_1).f0.f1) == a1_1)) = false := by simpa using c7
 (try (have c7b1 : decide (((rd_T91 ((rd_T37 l0 0).f2) x5_1).f0.f0) = a1_0 && (((rd_T91 ((rd_T37 l0 0).f2) x5_1).f0.f1) == a1_1)) = false := by first | (simpa using c7) | (have h_ := c7; revert h_; cases ((rd_T91 ((rd_T37 l0 0).f2) x5_1).f0.f0) <;> cases a1_0 && (((rd_T91 ((rd_T37 l0 0).f2) x5_1).f0.f1) == a1_1) <;> decide)))
 (try (have c7b2 : (((rd_T91 ((rd_T37 l0 0).f2) x5_1).f0.f0) == a1_0 && (((rd_T91 ((rd_T37 l0 0).f2) x5_1).f0.f1) == a1_1)) = false := by first | (simpa using c7) | (have h_ := c7; revert h_; cases ((rd_T91 ((rd_T37 l0 0).f2) x5_1).f0.f0) <;> cases a1_0 && (((rd_T91 ((rd_T37 l0 0).f2) x5_1).f0.f1) == a1_1) <;> decide)))
 (try (have c7b3 : ¬ (((rd_T91 ((rd_T37 l0 0).f2) x5_1).f0.f0) = a1_0 && (((rd_T91 ((rd_T37 l0 0).f2) x5_1).f0.f1) == a1_1)) := by simpa using c7))
 clear c7
 have H' := Aside0.mk H
 clear H
 have p211 : 0 ≤ (0 : Int) := (by omega)
 have q211 : 0 < (l0.length : Int) := of_decide_eq_true zA
 obtain ⟨ad211, A211_2, c211_2, e211, hx211_0, hx211_1, hx211_2, hl211_2, hi211_2⟩ := at_T37 HR0.out 0 p211 q211
 obtain rfl : adp0 = ad211 := (by injection e211)
 have qi211 : (0 < l0.length) = True := eq_true (by omega)
 try simp only [z00, Nat.zero_mul, Addr.add_zero'] at hx211_0 hx211_1 hx211_2
 replace hx211_0 := zc HB hx211_0
 replace hx211_1 := zc HB hx211_1
 replace hx211_2 := zc HB hx211_2
 have HR211_2 := Aside0.mk hi211_2
 have HC211_2 := Aside0.mk hl211_2
 clear hi211_2 hl211_2
 replace p211 := eq_true p211
 replace q211 := eq_true q211
 have p212 : 0 ≤ (0 : Int) := (by omega)
 have q212 : 0 < (l0.length : Int) := of_decide_eq_true zA
 obtain ⟨ad212, A212_2, c212_2, e212, hx212_0, hx212_1, hx212_2, hl212_2, hi212_2⟩ := at_T37 HR0.out 0 p212 q212
 obtain rfl : adp0 = ad212 := (by injection e212)
 have qi212 : (0 < l0.length) = True := eq_true (by omega)
 try simp only [z00, Nat.zero_mul, Addr.add_zero'] at hx212_0 hx212_1 hx212_2
 replace hx212_0 := zc HB hx212_0
 replace hx212_1 := zc HB hx212_1
 replace hx212_2 := zc HB hx212_2
 have HR212_2 := Aside0.mk hi212_2
 have HC212_2 := Aside0.mk hl212_2
 clear hi212_2 hl212_2
 replace p212 := eq_true p212
 replace q212 := eq_true q212
 have ea_ := Option.some.inj (hx211_2.symm.trans hx212_2)
 injection ea_ with ea_ en_ ec_
 subst ea_
 subst ec_
 clear en_
 have p213 : 0 ≤ (x5_1 : Int) := of_decide_eq_true zA
 have q213 : x5_1 < (((rd_T37 l0 0).f2).length : Int) := of_decide_eq_true zA
 obtain ⟨ad213, e213, hx213_0, hx213_1, hx213_2, hx213_3, hx213_4⟩ := at_T91 HR212_2.out x5_1 p213 q213
 cases e213
 replace hx213_0 := zc HB hx213_0
 replace hx213_1 := zc HB hx213_1
 replace hx213_2 := zc HB hx213_2
 replace hx213_3 := zc HB hx213_3
 replace hx213_4 := zc HB hx213_4
 replace p213 := eq_true p213
 replace q213 := eq_true q213
 obtain ⟨z9_0, z9_1, y9_0, y9_1⟩ := zB2 BK210
 go_wp2
 repeat (go_quiet (fail); try go_wp2)
 go_roundg k1
 case measure => have := HK1.out; omega
 case rel => exact ⟨(wrap64 (x5_1 + 1)), zi, H', ⟨by have := HK1.out; omega⟩, zh BK210, zba⟩
def spec_l01In.f (a0_0 : Int) (a0_1 : Int) (a1 : Int) (a2 : Int) : Option (Bool) := (spec_l00In.f (wrap64 (a0_0)) 0 (wrap64 (a1 - 1))).bind fun t215 => (if t215 = true then ((spec_l00In.f (wrap64 (a0_1)) 0 (wrap64 (a2 - 1))).bind fun t216 => (some t216)) else (some false))
theorem spec_l01In.calls (a0_0 : Int) (a0_1 : Int) (a1 : Int) (a2 : Int) (r : Bool) (w : World) (h : spec_l01In.f a0_0 a0_1 a1 a2 = some r) :
    Calls Try.prog 133 #[.agg #[.int .i8 a0_0, .int .i8 a0_1], .int .i64 a1, .int .i64 a2] w fun e w' => e = .returned (.bool r) ∧ Below w.heap.size w w' := by
 have hu74 := Try.underlying74
 have HB := Aside0.mk (Below.refl w.heap.size w)
 have H : ((spec_l00In.f (wrap64 (a0_0)) 0 (wrap64 (a1 - 1))).bind fun t215 => (if t215 = true then ((spec_l00In.f (wrap64 (a0_1)) 0 (wrap64 (a2 - 1))).bind fun t216 => (some t216)) else (some false))) = some r := h
 clear h
 replace H := zob H
 obtain ⟨t215, A40, H⟩ := H
 replace H : (if t215 = true then ((spec_l00In.f (wrap64 (a0_1)) 0 (wrap64 (a2 - 1))).bind fun t216 => (some t216)) else (some false)) = some r := H
 have A4 := Aside0.mk A40
 clear A40
 by_cases c5 : t215 = true
 rotate_left
 ·replace c5 := Bool.eq_false_iff.mpr c5
  subst c5
  have H1 : (some false) = some r := by rw [if_neg (show ¬ (false = true) by decide)] at H; exact H
  clear H
  have H := H1
  clear H1
  obtain rfl := Option.some.inj H
  go_enter Try.func133, Try.ntmps133
  go_wp2_with (first | ((with_reducible refine gate_dst (N := 3) rfl ?_); refine zbx 3 #[.int .i8 a0_0, .int .i8 a0_1] 74 ?_; intro gb214 hg w9 hbox hb; have n_ : _ ∧ _ ∧ _ ∧ _ := ⟨zb HB hb, Aside0.mk (hbox), zg HB hg, zg HB hg⟩; clear HB; obtain ⟨HB, BK214, GW214, GE214⟩ := n_; clear hb hbox hg; obtain ⟨z10_0, z10_1, y10_0, y10_1⟩ := zB2 BK214) | ((with_reducible refine gate_callee (f := 96) rfl ?_); refine goesL_ (some 12) rfl rfl Try.func96 (by kernel_rfl) rfl #[.int .i64 (wrap64 (a0_0)), .int .i64 0, .int .i64 (wrap64 (a1 - 1))] rfl zm ?_; (with_reducible refine (spec_l00In.calls (wrap64 (a0_0)) 0 (wrap64 (a1 - 1)) false _ A4.out).mono ?_); rintro e w' ⟨rfl, ⟨nd, rfl⟩⟩; refine ⟨_, rfl, ?_⟩))
  go_ret
  exact ⟨zv, zbo⟩
 subst c5
 have H1 : ((spec_l00In.f (wrap64 (a0_1)) 0 (wrap64 (a2 - 1))).bind fun t216 => (some t216)) = some r := by rw [if_pos rfl] at H; exact H
 clear H
 have H := H1
 clear H1
 replace H := zob H
 obtain ⟨t216, A60, H⟩ := H
 replace H : (some t216) = some r := H
 have A6 := Aside0.mk A60
 clear A60
 obtain rfl := Option.some.inj H
 go_enter Try.func133, Try.ntmps133
 go_wp2_with (first | ((with_reducible refine gate_dst (N := 3) rfl ?_); refine zbx 3 #[.int .i8 a0_0, .int .i8 a0_1] 74 ?_; intro gb214 hg w7 hbox hb; have n_ : _ ∧ _ ∧ _ ∧ _ := ⟨zb HB hb, Aside0.mk (hbox), zg HB hg, zg HB hg⟩; clear HB; obtain ⟨HB, BK214, GW214, GE214⟩ := n_; clear hb hbox hg; obtain ⟨z8_0, z8_1, y8_0, y8_1⟩ := zB2 BK214) | ((with_reducible refine gate_callee (f := 96) rfl ?_); refine goesL_ (some 12) rfl rfl Try.func96 (by kernel_rfl) rfl #[.int .i64 (wrap64 (a0_0)), .int .i64 0, .int .i64 (wrap64 (a1 - 1))] rfl zm ?_; (with_reducible refine (spec_l00In.calls (wrap64 (a0_0)) 0 (wrap64 (a1 - 1)) true _ A4.out).mono ?_); rintro e w' ⟨rfl, ⟨nd, rfl⟩⟩; refine ⟨_, rfl, ?_⟩) | (go_at_call 96; (with_reducible refine (spec_l00In.calls (wrap64 (a0_1)) 0 (wrap64 (a2 - 1)) t216 _ A6.out).mono ?_); rintro e w' ⟨rfl, ⟨nd, rfl⟩⟩))
 go_ret
 exact ⟨zv, zbo⟩
def spec_l01Piece.f (l0 : List (S91)) : Option (Bool) := if 0 < (l0.length : Int) then ((spec_l00In.f (wrap64 ((rd_T91 l0 0).f1)) 0 5).bind fun t218 => (if t218 = true then ((spec_l00In.f (wrap64 ((rd_T91 l0 0).f2)) 0 3).bind fun t220 => (if t220 = true then ((spec_l00In.f (wrap64 ((rd_T91 l0 0).f3)) 1 9).bind fun t222 => (if t222 = true then ((spec_l01In.f ((rd_T91 l0 0).f0.f0) ((rd_T91 l0 0).f0.f1) 24 24).bind fun t224 => (some t224)) else (some false))) else (some false))) else (some false))) else (none)
theorem spec_l01Piece.calls (adp0 : Addr) (l0 : List (S91)) (r : Bool) (w : World) (hr0 : Kd.C k91 w (some adp0) l0.length l0) (h : spec_l01Piece.f l0 = some r) :
    Calls Try.prog 132 #[.pointer (some adp0)] w fun e w' => e = .returned (.bool r) ∧ Below w.heap.size w w' := by
 have hu74 := Try.underlying74
 have HR0 := Aside0.mk hr0
 clear hr0
 have HB := Aside0.mk (Below.refl w.heap.size w)
 have H : (if 0 < (l0.length : Int) then ((spec_l00In.f (wrap64 ((rd_T91 l0 0).f1)) 0 5).bind fun t218 => (if t218 = true then ((spec_l00In.f (wrap64 ((rd_T91 l0 0).f2)) 0 3).bind fun t220 => (if t220 = true then ((spec_l00In.f (wrap64 ((rd_T91 l0 0).f3)) 1 9).bind fun t222 => (if t222 = true then ((spec_l01In.f ((rd_T91 l0 0).f0.f0) ((rd_T91 l0 0).f0.f1) 24 24).bind fun t224 => (some t224)) else (some false))) else (some false))) else (some false))) else (none)) = some r := h
 clear h
 by_cases c2 : 0 < (l0.length : Int)
 rotate_left
 ·rw [if_neg c2] at H
  exact absurd H (by simp)
 rw [if_pos c2] at H
 have c2b0 : decide (0 < (l0.length : Int)) = true := decide_eq_true c2
 have c2b1 : decide (0 < l0.length) = true := decide_eq_true (by omega)
 clear c2
 replace H := zob H
 obtain ⟨t218, A30, H⟩ := H
 replace H : (if t218 = true then ((spec_l00In.f (wrap64 ((rd_T91 l0 0).f2)) 0 3).bind fun t220 => (if t220 = true then ((spec_l00In.f (wrap64 ((rd_T91 l0 0).f3)) 1 9).bind fun t222 => (if t222 = true then ((spec_l01In.f ((rd_T91 l0 0).f0.f0) ((rd_T91 l0 0).f0.f1) 24 24).bind fun t224 => (some t224)) else (some false))) else (some false))) else (some false)) = some r := H
 have A3 := Aside0.mk A30
 clear A30
 by_cases c4 : t218 = true
 rotate_left
 ·replace c4 := Bool.eq_false_iff.mpr c4
  subst c4
  have H1 : (some false) = some r := by rw [if_neg (show ¬ (false = true) by decide)] at H; exact H
  clear H
  have H := H1
  clear H1
  obtain rfl := Option.some.inj H
  have p217 : 0 ≤ (0 : Int) := (by omega)
  have q217 : 0 < (l0.length : Int) := of_decide_eq_true zA
  obtain ⟨ad217, e217, hx217_0, hx217_1, hx217_2, hx217_3, hx217_4⟩ := at_T91 HR0.out 0 p217 q217
  obtain rfl : adp0 = ad217 := (by injection e217)
  have qi217 : (0 < l0.length) = True := eq_true (by omega)
  try simp only [z00, Nat.zero_mul, Addr.add_zero'] at hx217_0 hx217_1 hx217_2 hx217_3 hx217_4
  replace p217 := eq_true p217
  replace q217 := eq_true q217
  go_enter Try.func132, Try.ntmps132
  go_wp2_with (first | ((with_reducible refine gate_callee (f := 96) rfl ?_); refine goesL_ (some 8) rfl rfl Try.func96 (by kernel_rfl) rfl #[.int .i64 (wrap64 ((rd_T91 l0 0).f1)), .int .i64 0, .int .i64 5] rfl zm ?_; (with_reducible refine (spec_l00In.calls (wrap64 ((rd_T91 l0 0).f1)) 0 5 false _ A3.out).mono ?_); rintro e w' ⟨rfl, ⟨nd, rfl⟩⟩; refine ⟨_, rfl, ?_⟩))
  go_ret
  exact ⟨zv, zbo⟩
 subst c4
 have H1 : ((spec_l00In.f (wrap64 ((rd_T91 l0 0).f2)) 0 3).bind fun t220 => (if t220 = true then ((spec_l00In.f (wrap64 ((rd_T91 l0 0).f3)) 1 9).bind fun t222 => (if t222 = true then ((spec_l01In.f ((rd_T91 l0 0).f0.f0) ((rd_T91 l0 0).f0.f1) 24 24).bind fun t224 => (some t224)) else (some false))) else (some false))) = some r := by rw [if_pos rfl] at H; exact H
 clear H
 have H := H1
 clear H1
 replace H := zob H
 obtain ⟨t220, A50, H⟩ := H
 replace H : (if t220 = true then ((spec_l00In.f (wrap64 ((rd_T91 l0 0).f3)) 1 9).bind fun t222 => (if t222 = true then ((spec_l01In.f ((rd_T91 l0 0).f0.f0) ((rd_T91 l0 0).f0.f1) 24 24).bind fun t224 => (some t224)) else (some false))) else (some false)) = some r := H
 have A5 := Aside0.mk A50
 clear A50
 by_cases c6 : t220 = true
 rotate_left
 ·replace c6 := Bool.eq_false_iff.mpr c6
  subst c6
  have H1 : (some false) = some r := by rw [if_neg (show ¬ (false = true) by decide)] at H; exact H
  clear H
  have H := H1
  clear H1
  obtain rfl := Option.some.inj H
  have p217 : 0 ≤ (0 : Int) := (by omega)
  have q217 : 0 < (l0.length : Int) := of_decide_eq_true zA
  obtain ⟨ad217, e217, hx217_0, hx217_1, hx217_2, hx217_3, hx217_4⟩ := at_T91 HR0.out 0 p217 q217
  obtain rfl : adp0 = ad217 := (by injection e217)
  have qi217 : (0 < l0.length) = True := eq_true (by omega)
  try simp only [z00, Nat.zero_mul, Addr.add_zero'] at hx217_0 hx217_1 hx217_2 hx217_3 hx217_4
  replace p217 := eq_true p217
  replace q217 := eq_true q217
  go_enter Try.func132, Try.ntmps132
  go_wp2_with (first | ((with_reducible refine gate_callee (f := 96) rfl ?_); refine goesL_ (some 8) rfl rfl Try.func96 (by kernel_rfl) rfl #[.int .i64 (wrap64 ((rd_T91 l0 0).f1)), .int .i64 0, .int .i64 5] rfl zm ?_; (with_reducible refine (spec_l00In.calls (wrap64 ((rd_T91 l0 0).f1)) 0 5 true _ A3.out).mono ?_); rintro e w' ⟨rfl, ⟨nd, rfl⟩⟩; refine ⟨_, rfl, ?_⟩; have p219 : 0 ≤ (0 : Int) := (by omega); have q219 : 0 < (l0.length : Int) := of_decide_eq_true zA; obtain ⟨ad219, e219, hx219_0, hx219_1, hx219_2, hx219_3, hx219_4⟩ := at_T91 HR0.out 0 p219 q219; obtain rfl : adp0 = ad219 := (by injection e219); have qi219 : (0 < l0.length) = True := eq_true (by omega); (try simp only [z00, Nat.zero_mul, Addr.add_zero'] at hx219_0 hx219_1 hx219_2 hx219_3 hx219_4); replace p219 := eq_true p219; replace q219 := eq_true q219) | (go_at_call 96; (with_reducible refine (spec_l00In.calls (wrap64 ((rd_T91 l0 0).f2)) 0 3 false _ A5.out).mono ?_); rintro e w' ⟨rfl, ⟨nd, rfl⟩⟩))
  go_ret
  exact ⟨zv, zbo⟩
 subst c6
 have H1 : ((spec_l00In.f (wrap64 ((rd_T91 l0 0).f3)) 1 9).bind fun t222 => (if t222 = true then ((spec_l01In.f ((rd_T91 l0 0).f0.f0) ((rd_T91 l0 0).f0.f1) 24 24).bind fun t224 => (some t224)) else (some false))) = some r := by rw [if_pos rfl] at H; exact H
 clear H
 have H := H1
 clear H1
 replace H := zob H
 obtain ⟨t222, A70, H⟩ := H
 replace H : (if t222 = true then ((spec_l01In.f ((rd_T91 l0 0).f0.f0) ((rd_T91 l0 0).f0.f1) 24 24).bind fun t224 => (some t224)) else (some false)) = some r := H
 have A7 := Aside0.mk A70
 clear A70
 by_cases c8 : t222 = true
 rotate_left
 ·replace c8 := Bool.eq_false_iff.mpr c8
  subst c8
  have H1 : (some false) = some r := by rw [if_neg (show ¬ (false = true) by decide)] at H; exact H
  clear H
  have H := H1
  clear H1
  obtain rfl := Option.some.inj H
  have p217 : 0 ≤ (0 : Int) := (by omega)
  have q217 : 0 < (l0.length : Int) := of_decide_eq_true zA
  obtain ⟨ad217, e217, hx217_0, hx217_1, hx217_2, hx217_3, hx217_4⟩ := at_T91 HR0.out 0 p217 q217
  obtain rfl : adp0 = ad217 := (by injection e217)
  have qi217 : (0 < l0.length) = True := eq_true (by omega)
  try simp only [z00, Nat.zero_mul, Addr.add_zero'] at hx217_0 hx217_1 hx217_2 hx217_3 hx217_4
  replace p217 := eq_true p217
  replace q217 := eq_true q217
  go_enter Try.func132, Try.ntmps132
  go_wp2_with (first | ((with_reducible refine gate_callee (f := 96) rfl ?_); refine goesL_ (some 8) rfl rfl Try.func96 (by kernel_rfl) rfl #[.int .i64 (wrap64 ((rd_T91 l0 0).f1)), .int .i64 0, .int .i64 5] rfl zm ?_; (with_reducible refine (spec_l00In.calls (wrap64 ((rd_T91 l0 0).f1)) 0 5 true _ A3.out).mono ?_); rintro e w' ⟨rfl, ⟨nd, rfl⟩⟩; refine ⟨_, rfl, ?_⟩; have p219 : 0 ≤ (0 : Int) := (by omega); have q219 : 0 < (l0.length : Int) := of_decide_eq_true zA; obtain ⟨ad219, e219, hx219_0, hx219_1, hx219_2, hx219_3, hx219_4⟩ := at_T91 HR0.out 0 p219 q219; obtain rfl : adp0 = ad219 := (by injection e219); have qi219 : (0 < l0.length) = True := eq_true (by omega); (try simp only [z00, Nat.zero_mul, Addr.add_zero'] at hx219_0 hx219_1 hx219_2 hx219_3 hx219_4); replace p219 := eq_true p219; replace q219 := eq_true q219) | (go_at_call 96; (with_reducible refine (spec_l00In.calls (wrap64 ((rd_T91 l0 0).f2)) 0 3 true _ A5.out).mono ?_); rintro e w' ⟨rfl, ⟨nd, rfl⟩⟩; have p221 : 0 ≤ (0 : Int) := (by omega); have q221 : 0 < (l0.length : Int) := of_decide_eq_true zA; obtain ⟨ad221, e221, hx221_0, hx221_1, hx221_2, hx221_3, hx221_4⟩ := at_T91 HR0.out 0 p221 q221; obtain rfl : adp0 = ad221 := (by injection e221); have qi221 : (0 < l0.length) = True := eq_true (by omega); (try simp only [z00, Nat.zero_mul, Addr.add_zero'] at hx221_0 hx221_1 hx221_2 hx221_3 hx221_4); replace p221 := eq_true p221; replace q221 := eq_true q221) | (go_at_call 96; (with_reducible refine (spec_l00In.calls (wrap64 ((rd_T91 l0 0).f3)) 1 9 false _ A7.out).mono ?_); rintro e w' ⟨rfl, ⟨nd, rfl⟩⟩))
  go_ret
  exact ⟨zv, zbo⟩
 subst c8
 have H1 : ((spec_l01In.f ((rd_T91 l0 0).f0.f0) ((rd_T91 l0 0).f0.f1) 24 24).bind fun t224 => (some t224)) = some r := by rw [if_pos rfl] at H; exact H
 clear H
 have H := H1
 clear H1
 replace H := zob H
 obtain ⟨t224, A90, H⟩ := H
 replace H : (some t224) = some r := H
 have A9 := Aside0.mk A90
 clear A90
 obtain rfl := Option.some.inj H
 have p217 : 0 ≤ (0 : Int) := (by omega)
 have q217 : 0 < (l0.length : Int) := of_decide_eq_true zA
 obtain ⟨ad217, e217, hx217_0, hx217_1, hx217_2, hx217_3, hx217_4⟩ := at_T91 HR0.out 0 p217 q217
 obtain rfl : adp0 = ad217 := (by injection e217)
 have qi217 : (0 < l0.length) = True := eq_true (by omega)
 try simp only [z00, Nat.zero_mul, Addr.add_zero'] at hx217_0 hx217_1 hx217_2 hx217_3 hx217_4
 replace p217 := eq_true p217
 replace q217 := eq_true q217
 go_enter Try.func132, Try.ntmps132
 go_wp2_with (first | ((with_reducible refine gate_callee (f := 96) rfl ?_); refine goesL_ (some 8) rfl rfl Try.func96 (by kernel_rfl) rfl #[.int .i64 (wrap64 ((rd_T91 l0 0).f1)), .int .i64 0, .int .i64 5] rfl zm ?_; (with_reducible refine (spec_l00In.calls (wrap64 ((rd_T91 l0 0).f1)) 0 5 true _ A3.out).mono ?_); rintro e w' ⟨rfl, ⟨nd, rfl⟩⟩; refine ⟨_, rfl, ?_⟩; have p219 : 0 ≤ (0 : Int) := (by omega); have q219 : 0 < (l0.length : Int) := of_decide_eq_true zA; obtain ⟨ad219, e219, hx219_0, hx219_1, hx219_2, hx219_3, hx219_4⟩ := at_T91 HR0.out 0 p219 q219; obtain rfl : adp0 = ad219 := (by injection e219); have qi219 : (0 < l0.length) = True := eq_true (by omega); (try simp only [z00, Nat.zero_mul, Addr.add_zero'] at hx219_0 hx219_1 hx219_2 hx219_3 hx219_4); replace p219 := eq_true p219; replace q219 := eq_true q219) | (go_at_call 96; (with_reducible refine (spec_l00In.calls (wrap64 ((rd_T91 l0 0).f2)) 0 3 true _ A5.out).mono ?_); rintro e w' ⟨rfl, ⟨nd, rfl⟩⟩; have p221 : 0 ≤ (0 : Int) := (by omega); have q221 : 0 < (l0.length : Int) := of_decide_eq_true zA; obtain ⟨ad221, e221, hx221_0, hx221_1, hx221_2, hx221_3, hx221_4⟩ := at_T91 HR0.out 0 p221 q221; obtain rfl : adp0 = ad221 := (by injection e221); have qi221 : (0 < l0.length) = True := eq_true (by omega); (try simp only [z00, Nat.zero_mul, Addr.add_zero'] at hx221_0 hx221_1 hx221_2 hx221_3 hx221_4); replace p221 := eq_true p221; replace q221 := eq_true q221) | (go_at_call 96; (with_reducible refine (spec_l00In.calls (wrap64 ((rd_T91 l0 0).f3)) 1 9 true _ A7.out).mono ?_); rintro e w' ⟨rfl, ⟨nd, rfl⟩⟩; have p223 : 0 ≤ (0 : Int) := (by omega); have q223 : 0 < (l0.length : Int) := of_decide_eq_true zA; obtain ⟨ad223, e223, hx223_0, hx223_1, hx223_2, hx223_3, hx223_4⟩ := at_T91 HR0.out 0 p223 q223; obtain rfl : adp0 = ad223 := (by injection e223); have qi223 : (0 < l0.length) = True := eq_true (by omega); (try simp only [z00, Nat.zero_mul, Addr.add_zero'] at hx223_0 hx223_1 hx223_2 hx223_3 hx223_4); replace p223 := eq_true p223; replace q223 := eq_true q223) | (go_at_call 133; (with_reducible refine (spec_l01In.calls ((rd_T91 l0 0).f0.f0) ((rd_T91 l0 0).f0.f1) 24 24 t224 _ A9.out).mono ?_); rintro e w10 ⟨rfl, hb⟩; have n0_ := zb HB hb; clear HB; have HB := n0_; clear n0_; (try clear hb); (try clear hb2); (try clear hk); (try clear hi)))
 go_ret
 exact ⟨zv, zbo⟩
end Go.Proofs.Ytffnfpnajkgnaaa.PFnExactMoveMachine
