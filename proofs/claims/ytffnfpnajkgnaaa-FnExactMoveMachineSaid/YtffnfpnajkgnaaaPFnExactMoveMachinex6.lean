-- WRITTEN by xprint.py, a program of this session's. Not trusted: Lean checks it.
-- packed by pack.py
import Derived.Test.YtffnfpnajkgnaaaPFnExactMoveMachinex0
import Derived.Test.YtffnfpnajkgnaaaTFnExactMoveMachinea
namespace Go.Proofs.Ytffnfpnajkgnaaa.PFnExactMoveMachine
open Go.RowKit Go.Proofs.YtffnfpnajkgnaaaW.PrintWords Go.Proofs.YtffnfpnajkgnaaaW.PrintLast Go.Proofs.YtffnfpnajkgnaaaW.PrintMore Go.Proofs.YtffnfpnajkgnaaaX
attribute [local go_sem] max2_int min2_int max_two min_two max_three min_three max_four min_four   -- for this text's walks alone
set_option maxHeartbeats 8000000
set_option maxRecDepth 100000
set_option linter.unusedVariables false
set_option linter.unusedSimpArgs false

mutual
def laws_markPieceS.l0 : Nat → List (S91) → Int → Int → Option (Int × (List (S91)))
  | 0, _, _, _ => none
  | k + 1, x0, x1, x5 => if x5 < (x0.length : Int) then (laws_markPieceS.l1 k x0 x1 x5 0) else (some (x1, x0))
def laws_markPieceS.l1 : Nat → List (S91) → Int → Int → Int → Option (Int × (List (S91)))
  | 0, _, _, _, _ => none
  | k + 1, x0, x1, x5, x6 => if x6 < 2 then (if 0 ≤ x5 then (if x5 < (x0.length : Int) then (if x6 = 0 then (laws_markPieceS.l1 k (x0.set (x5 : Int).toNat (⟨(⟨IntKind.i8.wrap (x1), (rd_T91 x0 x5).f0.f1⟩ : S74), (rd_T91 x0 x5).f1, (rd_T91 x0 x5).f2, (rd_T91 x0 x5).f3⟩ : S91)) (wrap64 (x1 + 1)) x5 (wrap64 (x6 + 1))) else (if x6 = 1 then (laws_markPieceS.l1 k (x0.set (x5 : Int).toNat (⟨(⟨(rd_T91 x0 x5).f0.f0, IntKind.i8.wrap (x1)⟩ : S74), (rd_T91 x0 x5).f1, (rd_T91 x0 x5).f2, (rd_T91 x0 x5).f3⟩ : S91)) (wrap64 (x1 + 1)) x5 (wrap64 (x6 + 1))) else (none))) else (none)) else (none)) else (if 0 ≤ x5 then (if x5 < (x0.length : Int) then ((some (x0.set (x5 : Int).toNat (⟨(⟨(rd_T91 x0 x5).f0.f0, (rd_T91 x0 x5).f0.f1⟩ : S74), IntKind.i8.wrap (x1), (rd_T91 x0 x5).f2, (rd_T91 x0 x5).f3⟩ : S91) : List (S91))).bind fun y192 => ((some (y192.set (x5 : Int).toNat (⟨(⟨(rd_T91 y192 x5).f0.f0, (rd_T91 y192 x5).f0.f1⟩ : S74), (rd_T91 y192 x5).f1, IntKind.i8.wrap (wrap64 (x1 + 1)), (rd_T91 y192 x5).f3⟩ : S91) : List (S91))).bind fun y193 => (laws_markPieceS.l0 k (y193.set (x5 : Int).toNat (⟨(⟨(rd_T91 y193 x5).f0.f0, (rd_T91 y193 x5).f0.f1⟩ : S74), (rd_T91 y193 x5).f1, (rd_T91 y193 x5).f2, IntKind.i8.wrap (wrap64 ((wrap64 (x1 + 1)) + 1))⟩ : S91)) (wrap64 ((wrap64 ((wrap64 (x1 + 1)) + 1)) + 1)) (wrap64 (x5 + 1))))) else (none)) else (none))
end
def laws_markPieceS.f (k : Nat) (l0 : List (S91)) (a1 : Int) : Option (Int × (List (S91))) := laws_markPieceS.l0 k l0 a1 0
theorem laws_markPieceS.mono_l : ∀ k, (∀ y0 y1 y2, LeO (laws_markPieceS.l0 k y0 y1 y2) (laws_markPieceS.l0 (k + 1) y0 y1 y2)) ∧ (∀ y0 y1 y2 y3, LeO (laws_markPieceS.l1 k y0 y1 y2 y3) (laws_markPieceS.l1 (k + 1) y0 y1 y2 y3))
  | 0 => ⟨fun _ _ _ r h => by simp [laws_markPieceS.l0] at h, fun _ _ _ _ r h => by simp [laws_markPieceS.l1] at h⟩
  | k + 1 => by
    obtain ⟨ih0, ih1⟩ := laws_markPieceS.mono_l k
    refine ⟨?_, ?_⟩
    · intro y0 y1 y2
      unfold laws_markPieceS.l0
      repeat' first | (with_reducible first | apply ih0 | apply ih1 | exact LeO.refl _ | exact LeO.none _ | refine LeO.ite ?_ ?_ | refine LeO.bind ?_ (fun _ => ?_)) | apply ih0 | apply ih1 | exact LeO.none _ | refine LeO.ite ?_ ?_ | refine LeO.bind ?_ (fun _ => ?_)
    · intro y0 y1 y2 y3
      unfold laws_markPieceS.l1
      repeat' first | (with_reducible first | apply ih0 | apply ih1 | exact LeO.refl _ | exact LeO.none _ | refine LeO.ite ?_ ?_ | refine LeO.bind ?_ (fun _ => ?_)) | apply ih0 | apply ih1 | exact LeO.none _ | refine LeO.ite ?_ ?_ | refine LeO.bind ?_ (fun _ => ?_)
theorem laws_markPieceS.mono : ∀ a0 a1 k, LeO (laws_markPieceS.f k a0 a1) (laws_markPieceS.f (k + 1) a0 a1) := by
 intro a0 a1 k
 obtain ⟨ih0, ih1⟩ := laws_markPieceS.mono_l k
 unfold laws_markPieceS.f
 repeat' first | (with_reducible first | apply ih0 | apply ih1 | exact LeO.refl _ | exact LeO.none _ | refine LeO.ite ?_ ?_ | refine LeO.bind ?_ (fun _ => ?_)) | apply ih0 | apply ih1 | exact LeO.none _ | refine LeO.ite ?_ ?_ | refine LeO.bind ?_ (fun _ => ?_)
theorem laws_markPieceS.calls (k : Nat) (P0_ : Nat → Prop) (u9000_ : Value) (l0 : List (S91)) (a1 : Int) (r1 : Int) (r2 : List (S91)) (w0 w : World) (hB : Below w0.heap.size w0 w) (ho0 : Kd.R k91 91 w w0.heap.size P0_ u9000_ l0) (h : laws_markPieceS.f k l0 a1 = some (r1, r2)) :
    Calls Try.prog 117 #[u9000_, .int .i64 a1] w fun e w' => e = .returned (.int .i64 r1) ∧ Kd.R k91 91 w' w0.heap.size (fun k_ => (P0_ k_ ∨ w.heap.size ≤ k_)) u9000_ r2 ∧ Below w0.heap.size w0 w' ∧ Kept w w' (fun k_ => P0_ k_) := by
 have HO0 := Aside0.mk (show Kd.R k91 91 w w0.heap.size (fun k_ => (P0_ k_ ∨ w.heap.size ≤ k_)) u9000_ l0 from Kd.R_mono ho0 (fun k_ hk => (.inl hk)))
 have HK := Aside0.mk (Kept.refl w (fun k_ => P0_ k_))
 have HW0 := Aside0.mk hB.size
 have HB := Aside0.mk hB
 clear hB
 have H : (laws_markPieceS.l0 k l0 a1 0) = some (r1, r2) := h
 clear h
 have H' := Aside0.mk H
 clear H
 go_enter Try.func117, Try.ntmps117
 go_wp2
 go_loopg [1, 5] k (fun kq v1 v5 w' => ∃ (x0_1 : List (S91)) (x1_1 : Int) (x5_1 : Int), v1 = .int .i64 x1_1 ∧ v5 = .int .i64 x5_1 ∧ Aside0 (laws_markPieceS.l0 kq x0_1 x1_1 x5_1 = some (r1, r2)) ∧ Aside0 (kq ≤ k) ∧ Aside0 (Kd.R k91 91 w' w0.heap.size (fun k_ => (P0_ k_ ∨ w.heap.size ≤ k_)) u9000_ x0_1) ∧ Aside0 (Kept w w' (fun k_ => P0_ k_)) ∧ Aside0 (Below w0.heap.size w0 w'))
 case atStart => exact ⟨(l0), (a1), (0), zi, zi, H', ⟨Nat.le_refl _⟩, ze HO0, ⟨by repeat (first | (with_reducible first | exact HK.out | apply Kept.alloc | apply Kept.drewN | apply Kept.drew) | exact HK.out)⟩, zl HB⟩
 clear H'
 try clear c1
 try clear p2
 obtain ⟨x0_1, x1_1, x5_1, rfl, rfl, HA, HK1, HO_0, HK, HB⟩ := hrel
 cases gk with
 | zero => exact absurd HA.out (by simp [laws_markPieceS.l0])
 | succ k1 => ?_
 have H := HA.out
 clear HA
 simp only [laws_markPieceS.l0] at H
 by_cases c3 : x5_1 < (x0_1.length : Int)
 rotate_left
 ·rw [if_neg c3] at H
  have c3b0 : decide (x5_1 < (x0_1.length : Int)) = false := decide_eq_false c3
  clear c3
  simp only [Option.some.injEq, Prod.mk.injEq] at H
  obtain ⟨rfl, rfl⟩ := H
  obtain ⟨Ao28, co28, eo28⟩ := Kd.R_slice HO_0.out
  subst eo28
  go_wp2
  go_ret
  exact ⟨zv, by (with_reducible repeat (first | apply Kd.R_alloc | apply Kd.R_drewN | apply Kd.R_drew)); exact HO_0.out, zbo, by repeat (first | (with_reducible first | exact HK.out | apply Kept.alloc | apply Kept.drewN | apply Kept.drew) | exact HK.out)⟩
 rw [if_pos c3] at H
 have c3b0 : decide (x5_1 < (x0_1.length : Int)) = true := decide_eq_true c3
 clear c3
 have H' := Aside0.mk H
 clear H
 obtain ⟨Ao4, co4, eo4⟩ := Kd.R_slice HO_0.out
 subst eo4
 go_wp2
 go_loopg [1, 6] k1 (fun kq v1 v6 w' => ∃ (x0_2 : List (S91)) (x1_2 : Int) (x6_2 : Int), v1 = .int .i64 x1_2 ∧ v6 = .int .i64 x6_2 ∧ Aside0 (laws_markPieceS.l1 kq x0_2 x1_2 x5_1 x6_2 = some (r1, r2)) ∧ Aside0 (kq ≤ k1) ∧ Aside0 (Kd.R k91 91 w' w0.heap.size (fun k_ => (P0_ k_ ∨ w.heap.size ≤ k_)) (.slice Ao4 x0_1.length co4) x0_2) ∧ Aside0 (Kept w w' (fun k_ => P0_ k_)) ∧ Aside0 (Below w0.heap.size w0 w'))
 case atStart => exact ⟨(x0_1), (x1_1), (0), zi, zi, H', ⟨Nat.le_refl _⟩, ze HO_0, ⟨by repeat (first | (with_reducible first | exact HK.out | apply Kept.alloc | apply Kept.drewN | apply Kept.drew) | exact HK.out)⟩, zl HB⟩
 clear H'
 try clear c1
 try clear p2
 try clear c3
 try clear c3b0
 try clear p2
 obtain ⟨x0_2, x1_2, x6_2, rfl, rfl, HA, HK2, HO_0, HK, HB⟩ := hrel
 have hl0_2 := (Kd.R_reads' HO_0.out).1
 rw [hl0_2] at HO_0
 (try simp only [hl0_2])
 cases gk with
 | zero => exact absurd HA.out (by simp [laws_markPieceS.l1])
 | succ k2 => ?_
 have H := HA.out
 clear HA
 simp only [laws_markPieceS.l1] at H
 by_cases c5 : x6_2 < 2
 ·rw [if_pos c5] at H
  have c5b0 : decide (x6_2 < 2) = true := decide_eq_true c5
  clear c5
  by_cases c6 : 0 ≤ x5_1
  rotate_left
  ·rw [if_neg c6] at H
   exact absurd H (by simp)
  rw [if_pos c6] at H
  have c6b0 : decide (0 ≤ x5_1) = true := decide_eq_true c6
  clear c6
  by_cases c7 : x5_1 < (x0_2.length : Int)
  rotate_left
  ·rw [if_neg c7] at H
   exact absurd H (by simp)
  rw [if_pos c7] at H
  have c7b0 : decide (x5_1 < (x0_2.length : Int)) = true := decide_eq_true c7
  clear c7
  by_cases c9 : x6_2 = 0
  ·rw [if_pos c9] at H
   have Ac9 : Aside0 (x6_2 = 0) := ⟨c9⟩
   clear c9
   have ar10e : x6_2 = 0 := by first | exact (show Aside0 (x6_2 = 0) by assumption).out | exact beq_iff_eq.mp (by assumption) | omega
   have ar10n : (x6_2).toNat = 0 := by rw [ar10e]; rfl
   have ar10l : decide (0 ≤ x6_2) = true := decide_eq_true (by omega)
   have ar10L := eq_true (of_decide_eq_true ar10l)
   have ar10h : decide (x6_2 < 2) = true := decide_eq_true (by omega)
   have ar10H := eq_true (of_decide_eq_true ar10h)
   clear ar10e
   obtain ⟨y190, hy190⟩ : ∃ y_ : List (S91), y_ = (x0_2.set (x5_1 : Int).toNat (⟨(⟨IntKind.i8.wrap (x1_2), (rd_T91 x0_2 x5_1).f0.f1⟩ : S74), (rd_T91 x0_2 x5_1).f1, (rd_T91 x0_2 x5_1).f2, (rd_T91 x0_2 x5_1).f3⟩ : S91)) := ⟨_, rfl⟩
   replace H : (laws_markPieceS.l1 k2 y190 (wrap64 (x1_2 + 1)) x5_1 (wrap64 (x6_2 + 1))) = some (r1, r2) := by first | (rw [hy190]; with_reducible exact H) | (have H2_ := (Option.bind_some _ _).symm.trans H; rw [hy190]; with_reducible exact H2_) | (have H2_ := (Option.bind_some _ _).symm.trans H; with_reducible exact H2_) | with_reducible exact H | (rw [hy190]; exact H) | exact H
   have Ny190 := Aside0.mk hy190
   clear hy190
   have H' := Aside0.mk H
   clear H
   have p8 : 0 ≤ (x5_1 : Int) := of_decide_eq_true zA
   have q8 : (x5_1 : Int) < ((x0_2.length : Int) : Int) := of_decide_eq_true zA
   obtain ⟨go8, co8, eo8, gb8, gl8, cl8, HG8⟩ := Kd.R_form HO_0.out (by omega)
   (first | cases eo8 | (injection eo8 with ea_ en_ ec_; (first | subst ea_ | (injection ea_ with ea_; subst ea_)); subst ec_; clear en_))
   have GB8 := Aside0.mk gb8
   have GG8 := Aside0.mk HG8
   clear gb8 gl8 HG8
   have HMgo8 := Aside0.mk (show (P0_ go8 ∨ w.heap.size ≤ go8) from (HO_0.out.1 _ rfl))
   obtain ⟨ce8, hcl8, hM8, hcc8, hfr8⟩ := Kd.R_elem HO_0.out z91 (x5_1 : Int) p8 q8
   obtain rfl := k91_openM hM8
   have hx8_0 : wr.cell? ⟨go8, (x5_1 : Int).toNat * 5, none⟩ = some (.int .i8 ((rd_T91 x0_2 x5_1).f0.f0)) := hcc8 0 _ rfl
   have hx8_1 : wr.cell? ⟨go8, (x5_1 : Int).toNat * 5 + 1, none⟩ = some (.int .i8 ((rd_T91 x0_2 x5_1).f0.f1)) := hcc8 1 _ rfl
   have hx8_2 : wr.cell? ⟨go8, (x5_1 : Int).toNat * 5 + 2, none⟩ = some (.int .i8 ((rd_T91 x0_2 x5_1).f1)) := hcc8 2 _ rfl
   have hx8_3 : wr.cell? ⟨go8, (x5_1 : Int).toNat * 5 + 3, none⟩ = some (.int .i8 ((rd_T91 x0_2 x5_1).f2)) := hcc8 3 _ rfl
   have hx8_4 : wr.cell? ⟨go8, (x5_1 : Int).toNat * 5 + 4, none⟩ = some (.int .i8 ((rd_T91 x0_2 x5_1).f3)) := hcc8 4 _ rfl
   have hf8_0 : wr.frozen? ⟨go8, (x5_1 : Int).toNat * 5, none⟩ = false := hfr8 0
   have hf8_1 : wr.frozen? ⟨go8, (x5_1 : Int).toNat * 5 + 1, none⟩ = false := hfr8 1
   have hf8_2 : wr.frozen? ⟨go8, (x5_1 : Int).toNat * 5 + 2, none⟩ = false := hfr8 2
   have hf8_3 : wr.frozen? ⟨go8, (x5_1 : Int).toNat * 5 + 3, none⟩ = false := hfr8 3
   have hf8_4 : wr.frozen? ⟨go8, (x5_1 : Int).toNat * 5 + 4, none⟩ = false := hfr8 4
   clear hcl8 hcc8 hfr8 hM8
   replace p8 := eq_true p8
   replace q8 := eq_true q8
   have HX11 := Aside0.mk (show Kd.R k91 91 wr w0.heap.size (fun k_ => (P0_ k_ ∨ w.heap.size ≤ k_)) (.slice (some ⟨go8, 0, none⟩) x0_2.length co4) x0_2 from (ze HO_0).out)
   obtain ⟨ce11, hcl11, hM11, hcc11, hfr11⟩ := Kd.R_elem HX11.out z91 (x5_1 : Int) (of_decide_eq_true zA) (zlt (x5_1 : Int) (x0_2.length : Int) (Kd.R_reads' HO_0.out).1)
   obtain rfl := k91_openM hM11
   have HP11 := Kd.R_seg HX11.out (x5_1 : Int) (of_decide_eq_true zA) (zlt (x5_1 : Int) (x0_2.length : Int) (Kd.R_reads' HO_0.out).1) (seg := [.int .i8 (IntKind.i8.wrap (x1_2))]) (j := 0) hcl11 hcc11 (show 1 ≤ 5 from by decide) (x' := (⟨(⟨IntKind.i8.wrap (x1_2), (rd_T91 x0_2 x5_1).f0.f1⟩ : S74), (rd_T91 x0_2 x5_1).f1, (rd_T91 x0_2 x5_1).f2, (rd_T91 x0_2 x5_1).f3⟩ : S91)) (k91_mkM _ _ _ (⟨(⟨IntKind.i8.wrap (x1_2), (rd_T91 x0_2 x5_1).f0.f1⟩ : S74), (rd_T91 x0_2 x5_1).f1, (rd_T91 x0_2 x5_1).f2, (rd_T91 x0_2 x5_1).f3⟩ : S91) ) (fun _ hk => hk)
   have hx11_0 := hcc11 0 _ rfl
   (try simp only [show (k91).sz = 5 from rfl, Nat.mul_one, Nat.add_zero] at hx11_0)
   have hf11_0 := hfr11 0
   (try simp only [show (k91).sz = 5 from rfl, Nat.mul_one, Nat.add_zero] at hf11_0)
   clear hcl11 hcc11 hfr11 hM11
   go_wp2_with (first | ((with_reducible refine gate_store (t := 22) (p := 24) rfl ?_); refine store_event (t := 22) (p := 24) (v := ?vo_w12) (w1 := (wr.setCell ⟨go8, (x5_1 : Int).toNat * 5, none⟩ (.int .i8 (IntKind.i8.wrap (x1_2))))) ?hg ?ho ?hn ?hr ?_; (case ho => rfl); (case hg => rfl); (case hn => rfl); (case hr => exact zgs); intro w12 hw; have hg : wr.grownBy w12 (some go8) := (by rw [hw]; exact HP11.2); have hp_ : Kd.R k91 91 w12 w0.heap.size (fun k_ => (P0_ k_ ∨ w.heap.size ≤ k_)) (.slice (some ⟨go8, 0, none⟩) x0_2.length co4) y190 := (by rw [hw, Ny190.out]; exact HP11.1); clear HP11; have n_ : _ ∧ _ ∧ _ := ⟨Aside0.mk (hp_), Aside0.mk ((by rw [hw]; exact below_set (HB.out) GB8.out : Below w0.heap.size w0 w12)), Aside0.mk (Kept.of_grown (S := (fun k_ => P0_ k_)) hg (by repeat (first | (with_reducible first | exact HK.out | apply Kept.alloc | apply Kept.drewN | apply Kept.drew) | exact HK.out)) (fun k_ e_ => (HO_0.out.1 k_ e_)))⟩; clear HO_0 HB HK; obtain ⟨HO_0, HB, HK⟩ := n_; clear hg hw hp_))
   (try simp only [← hl0_2])
   go_roundg k2
   case measure => have := HK1.out; have := HK2.out; omega
   case rel => exact ⟨(y190), (wrap64 (x1_2 + 1)), (wrap64 (x6_2 + 1)), zi, zi, H', ⟨by have := HK1.out; have := HK2.out; omega⟩, ⟨by (try simp only [hl0_2]); (with_reducible repeat (first | apply Kd.R_alloc | apply Kd.R_drewN | apply Kd.R_drew)); exact HO_0.out⟩, ⟨by repeat (first | (with_reducible first | exact HK.out | apply Kept.alloc | apply Kept.drewN | apply Kept.drew) | exact HK.out)⟩, zl HB⟩
  rw [if_neg c9] at H
  clear c9
  by_cases c13 : x6_2 = 1
  rotate_left
  ·rw [if_neg c13] at H
   exact absurd H (by simp)
  rw [if_pos c13] at H
  have Ac13 : Aside0 (x6_2 = 1) := ⟨c13⟩
  clear c13
  have ar14e : x6_2 = 1 := by first | exact (show Aside0 (x6_2 = 1) by assumption).out | exact beq_iff_eq.mp (by assumption) | omega
  have ar14n : (x6_2).toNat = 1 := by rw [ar14e]; rfl
  have ar14l : decide (0 ≤ x6_2) = true := decide_eq_true (by omega)
  have ar14L := eq_true (of_decide_eq_true ar14l)
  have ar14h : decide (x6_2 < 2) = true := decide_eq_true (by omega)
  have ar14H := eq_true (of_decide_eq_true ar14h)
  clear ar14e
  obtain ⟨y191, hy191⟩ : ∃ y_ : List (S91), y_ = (x0_2.set (x5_1 : Int).toNat (⟨(⟨(rd_T91 x0_2 x5_1).f0.f0, IntKind.i8.wrap (x1_2)⟩ : S74), (rd_T91 x0_2 x5_1).f1, (rd_T91 x0_2 x5_1).f2, (rd_T91 x0_2 x5_1).f3⟩ : S91)) := ⟨_, rfl⟩
  replace H : (laws_markPieceS.l1 k2 y191 (wrap64 (x1_2 + 1)) x5_1 (wrap64 (x6_2 + 1))) = some (r1, r2) := by first | (rw [hy191]; with_reducible exact H) | (have H2_ := (Option.bind_some _ _).symm.trans H; rw [hy191]; with_reducible exact H2_) | (have H2_ := (Option.bind_some _ _).symm.trans H; with_reducible exact H2_) | with_reducible exact H | (rw [hy191]; exact H) | exact H
  have Ny191 := Aside0.mk hy191
  clear hy191
  have H' := Aside0.mk H
  clear H
  have p8 : 0 ≤ (x5_1 : Int) := of_decide_eq_true zA
  have q8 : (x5_1 : Int) < ((x0_2.length : Int) : Int) := of_decide_eq_true zA
  obtain ⟨go8, co8, eo8, gb8, gl8, cl8, HG8⟩ := Kd.R_form HO_0.out (by omega)
  (first | cases eo8 | (injection eo8 with ea_ en_ ec_; (first | subst ea_ | (injection ea_ with ea_; subst ea_)); subst ec_; clear en_))
  have GB8 := Aside0.mk gb8
  have GG8 := Aside0.mk HG8
  clear gb8 gl8 HG8
  have HMgo8 := Aside0.mk (show (P0_ go8 ∨ w.heap.size ≤ go8) from (HO_0.out.1 _ rfl))
  obtain ⟨ce8, hcl8, hM8, hcc8, hfr8⟩ := Kd.R_elem HO_0.out z91 (x5_1 : Int) p8 q8
  obtain rfl := k91_openM hM8
  have hx8_0 : wr.cell? ⟨go8, (x5_1 : Int).toNat * 5, none⟩ = some (.int .i8 ((rd_T91 x0_2 x5_1).f0.f0)) := hcc8 0 _ rfl
  have hx8_1 : wr.cell? ⟨go8, (x5_1 : Int).toNat * 5 + 1, none⟩ = some (.int .i8 ((rd_T91 x0_2 x5_1).f0.f1)) := hcc8 1 _ rfl
  have hx8_2 : wr.cell? ⟨go8, (x5_1 : Int).toNat * 5 + 2, none⟩ = some (.int .i8 ((rd_T91 x0_2 x5_1).f1)) := hcc8 2 _ rfl
  have hx8_3 : wr.cell? ⟨go8, (x5_1 : Int).toNat * 5 + 3, none⟩ = some (.int .i8 ((rd_T91 x0_2 x5_1).f2)) := hcc8 3 _ rfl
  have hx8_4 : wr.cell? ⟨go8, (x5_1 : Int).toNat * 5 + 4, none⟩ = some (.int .i8 ((rd_T91 x0_2 x5_1).f3)) := hcc8 4 _ rfl
  have hf8_0 : wr.frozen? ⟨go8, (x5_1 : Int).toNat * 5, none⟩ = false := hfr8 0
  have hf8_1 : wr.frozen? ⟨go8, (x5_1 : Int).toNat * 5 + 1, none⟩ = false := hfr8 1
  have hf8_2 : wr.frozen? ⟨go8, (x5_1 : Int).toNat * 5 + 2, none⟩ = false := hfr8 2
  have hf8_3 : wr.frozen? ⟨go8, (x5_1 : Int).toNat * 5 + 3, none⟩ = false := hfr8 3
  have hf8_4 : wr.frozen? ⟨go8, (x5_1 : Int).toNat * 5 + 4, none⟩ = false := hfr8 4
  clear hcl8 hcc8 hfr8 hM8
  replace p8 := eq_true p8
  replace q8 := eq_true q8
  have HX15 := Aside0.mk (show Kd.R k91 91 wr w0.heap.size (fun k_ => (P0_ k_ ∨ w.heap.size ≤ k_)) (.slice (some ⟨go8, 0, none⟩) x0_2.length co4) x0_2 from (ze HO_0).out)
  obtain ⟨ce15, hcl15, hM15, hcc15, hfr15⟩ := Kd.R_elem HX15.out z91 (x5_1 : Int) (of_decide_eq_true zA) (zlt (x5_1 : Int) (x0_2.length : Int) (Kd.R_reads' HO_0.out).1)
  obtain rfl := k91_openM hM15
  have HP15 := Kd.R_seg HX15.out (x5_1 : Int) (of_decide_eq_true zA) (zlt (x5_1 : Int) (x0_2.length : Int) (Kd.R_reads' HO_0.out).1) (seg := [.int .i8 (IntKind.i8.wrap (x1_2))]) (j := 1) hcl15 hcc15 (show 2 ≤ 5 from by decide) (x' := (⟨(⟨(rd_T91 x0_2 x5_1).f0.f0, IntKind.i8.wrap (x1_2)⟩ : S74), (rd_T91 x0_2 x5_1).f1, (rd_T91 x0_2 x5_1).f2, (rd_T91 x0_2 x5_1).f3⟩ : S91)) (k91_mkM _ _ _ (⟨(⟨(rd_T91 x0_2 x5_1).f0.f0, IntKind.i8.wrap (x1_2)⟩ : S74), (rd_T91 x0_2 x5_1).f1, (rd_T91 x0_2 x5_1).f2, (rd_T91 x0_2 x5_1).f3⟩ : S91) ) (fun _ hk => hk)
  have hx15_1 := hcc15 1 _ rfl
  (try simp only [show (k91).sz = 5 from rfl, Nat.mul_one, Nat.add_zero] at hx15_1)
  have hf15_1 := hfr15 1
  (try simp only [show (k91).sz = 5 from rfl, Nat.mul_one, Nat.add_zero] at hf15_1)
  clear hcl15 hcc15 hfr15 hM15
  go_wp2_with (first | ((with_reducible refine gate_store (t := 22) (p := 24) rfl ?_); refine store_event (t := 22) (p := 24) (v := ?vo_w16) (w1 := (wr.setCell ⟨go8, (x5_1 : Int).toNat * 5 + 1, none⟩ (.int .i8 (IntKind.i8.wrap (x1_2))))) ?hg ?ho ?hn ?hr ?_; (case ho => rfl); (case hg => rfl); (case hn => rfl); (case hr => exact zgs); intro w16 hw; have hg : wr.grownBy w16 (some go8) := (by rw [hw]; exact HP15.2); have hp_ : Kd.R k91 91 w16 w0.heap.size (fun k_ => (P0_ k_ ∨ w.heap.size ≤ k_)) (.slice (some ⟨go8, 0, none⟩) x0_2.length co4) y191 := (by rw [hw, Ny191.out]; exact HP15.1); clear HP15; have n_ : _ ∧ _ ∧ _ := ⟨Aside0.mk (hp_), Aside0.mk ((by rw [hw]; exact below_set (HB.out) GB8.out : Below w0.heap.size w0 w16)), Aside0.mk (Kept.of_grown (S := (fun k_ => P0_ k_)) hg (by repeat (first | (with_reducible first | exact HK.out | apply Kept.alloc | apply Kept.drewN | apply Kept.drew) | exact HK.out)) (fun k_ e_ => (HO_0.out.1 k_ e_)))⟩; clear HO_0 HB HK; obtain ⟨HO_0, HB, HK⟩ := n_; clear hg hw hp_))
  (try simp only [← hl0_2])
  go_roundg k2
  case measure => have := HK1.out; have := HK2.out; omega
  case rel => exact ⟨(y191), (wrap64 (x1_2 + 1)), (wrap64 (x6_2 + 1)), zi, zi, H', ⟨by have := HK1.out; have := HK2.out; omega⟩, ⟨by (try simp only [hl0_2]); (with_reducible repeat (first | apply Kd.R_alloc | apply Kd.R_drewN | apply Kd.R_drew)); exact HO_0.out⟩, ⟨by repeat (first | (with_reducible first | exact HK.out | apply Kept.alloc | apply Kept.drewN | apply Kept.drew) | exact HK.out)⟩, zl HB⟩
 rw [if_neg c5] at H
 have c5b0 : decide (x6_2 < 2) = false := decide_eq_false c5
 clear c5
 by_cases c17 : 0 ≤ x5_1
 rotate_left
 ·rw [if_neg c17] at H
  exact absurd H (by simp)
 rw [if_pos c17] at H
 have c17b0 : decide (0 ≤ x5_1) = true := decide_eq_true c17
 clear c17
 by_cases c18 : x5_1 < (x0_2.length : Int)
 rotate_left
 ·rw [if_neg c18] at H
  exact absurd H (by simp)
 rw [if_pos c18] at H
 have c18b0 : decide (x5_1 < (x0_2.length : Int)) = true := decide_eq_true c18
 clear c18
 obtain ⟨y192, hy192⟩ : ∃ y_ : List (S91), y_ = (x0_2.set (x5_1 : Int).toNat (⟨(⟨(rd_T91 x0_2 x5_1).f0.f0, (rd_T91 x0_2 x5_1).f0.f1⟩ : S74), IntKind.i8.wrap (x1_2), (rd_T91 x0_2 x5_1).f2, (rd_T91 x0_2 x5_1).f3⟩ : S91)) := ⟨_, rfl⟩
 replace H : ((some (y192.set (x5_1 : Int).toNat (⟨(⟨(rd_T91 y192 x5_1).f0.f0, (rd_T91 y192 x5_1).f0.f1⟩ : S74), (rd_T91 y192 x5_1).f1, IntKind.i8.wrap (wrap64 (x1_2 + 1)), (rd_T91 y192 x5_1).f3⟩ : S91) : List (S91))).bind fun y193 => (laws_markPieceS.l0 k2 (y193.set (x5_1 : Int).toNat (⟨(⟨(rd_T91 y193 x5_1).f0.f0, (rd_T91 y193 x5_1).f0.f1⟩ : S74), (rd_T91 y193 x5_1).f1, (rd_T91 y193 x5_1).f2, IntKind.i8.wrap (wrap64 ((wrap64 (x1_2 + 1)) + 1))⟩ : S91)) (wrap64 ((wrap64 ((wrap64 (x1_2 + 1)) + 1)) + 1)) (wrap64 (x5_1 + 1)))) = some (r1, r2) := by first | (rw [hy192]; with_reducible exact H) | (have H2_ := (Option.bind_some _ _).symm.trans H; rw [hy192]; with_reducible exact H2_) | (have H2_ := (Option.bind_some _ _).symm.trans H; with_reducible exact H2_) | with_reducible exact H | (rw [hy192]; exact H) | exact H
 have Ny192 := Aside0.mk hy192
 clear hy192
 obtain ⟨y193, hy193⟩ : ∃ y_ : List (S91), y_ = (y192.set (x5_1 : Int).toNat (⟨(⟨(rd_T91 y192 x5_1).f0.f0, (rd_T91 y192 x5_1).f0.f1⟩ : S74), (rd_T91 y192 x5_1).f1, IntKind.i8.wrap (wrap64 (x1_2 + 1)), (rd_T91 y192 x5_1).f3⟩ : S91)) := ⟨_, rfl⟩
 replace H : (laws_markPieceS.l0 k2 (y193.set (x5_1 : Int).toNat (⟨(⟨(rd_T91 y193 x5_1).f0.f0, (rd_T91 y193 x5_1).f0.f1⟩ : S74), (rd_T91 y193 x5_1).f1, (rd_T91 y193 x5_1).f2, IntKind.i8.wrap (wrap64 ((wrap64 (x1_2 + 1)) + 1))⟩ : S91)) (wrap64 ((wrap64 ((wrap64 (x1_2 + 1)) + 1)) + 1)) (wrap64 (x5_1 + 1))) = some (r1, r2) := by first | (rw [hy193]; with_reducible exact H) | (have H2_ := (Option.bind_some _ _).symm.trans H; rw [hy193]; with_reducible exact H2_) | (have H2_ := (Option.bind_some _ _).symm.trans H; with_reducible exact H2_) | with_reducible exact H | (rw [hy193]; exact H) | exact H
 have Ny193 := Aside0.mk hy193
 clear hy193
 obtain ⟨y194, hy194⟩ : ∃ y_ : List (S91), y_ = (y193.set (x5_1 : Int).toNat (⟨(⟨(rd_T91 y193 x5_1).f0.f0, (rd_T91 y193 x5_1).f0.f1⟩ : S74), (rd_T91 y193 x5_1).f1, (rd_T91 y193 x5_1).f2, IntKind.i8.wrap (wrap64 ((wrap64 (x1_2 + 1)) + 1))⟩ : S91)) := ⟨_, rfl⟩
 replace H : (laws_markPieceS.l0 k2 y194 (wrap64 ((wrap64 ((wrap64 (x1_2 + 1)) + 1)) + 1)) (wrap64 (x5_1 + 1))) = some (r1, r2) := by first | (rw [hy194]; with_reducible exact H) | (have H2_ := (Option.bind_some _ _).symm.trans H; rw [hy194]; with_reducible exact H2_) | (have H2_ := (Option.bind_some _ _).symm.trans H; with_reducible exact H2_) | with_reducible exact H | (rw [hy194]; exact H) | exact H
 have Ny194 := Aside0.mk hy194
 clear hy194
 have H' := Aside0.mk H
 clear H
 have p19 : 0 ≤ (x5_1 : Int) := of_decide_eq_true zA
 have q19 : (x5_1 : Int) < ((x0_2.length : Int) : Int) := of_decide_eq_true zA
 obtain ⟨go19, co19, eo19, gb19, gl19, cl19, HG19⟩ := Kd.R_form HO_0.out (by omega)
 (first | cases eo19 | (injection eo19 with ea_ en_ ec_; (first | subst ea_ | (injection ea_ with ea_; subst ea_)); subst ec_; clear en_))
 have GB19 := Aside0.mk gb19
 have GG19 := Aside0.mk HG19
 clear gb19 gl19 HG19
 have HMgo19 := Aside0.mk (show (P0_ go19 ∨ w.heap.size ≤ go19) from (HO_0.out.1 _ rfl))
 obtain ⟨ce19, hcl19, hM19, hcc19, hfr19⟩ := Kd.R_elem HO_0.out z91 (x5_1 : Int) p19 q19
 obtain rfl := k91_openM hM19
 have hx19_0 : wr.cell? ⟨go19, (x5_1 : Int).toNat * 5, none⟩ = some (.int .i8 ((rd_T91 x0_2 x5_1).f0.f0)) := hcc19 0 _ rfl
 have hx19_1 : wr.cell? ⟨go19, (x5_1 : Int).toNat * 5 + 1, none⟩ = some (.int .i8 ((rd_T91 x0_2 x5_1).f0.f1)) := hcc19 1 _ rfl
 have hx19_2 : wr.cell? ⟨go19, (x5_1 : Int).toNat * 5 + 2, none⟩ = some (.int .i8 ((rd_T91 x0_2 x5_1).f1)) := hcc19 2 _ rfl
 have hx19_3 : wr.cell? ⟨go19, (x5_1 : Int).toNat * 5 + 3, none⟩ = some (.int .i8 ((rd_T91 x0_2 x5_1).f2)) := hcc19 3 _ rfl
 have hx19_4 : wr.cell? ⟨go19, (x5_1 : Int).toNat * 5 + 4, none⟩ = some (.int .i8 ((rd_T91 x0_2 x5_1).f3)) := hcc19 4 _ rfl
 have hf19_0 : wr.frozen? ⟨go19, (x5_1 : Int).toNat * 5, none⟩ = false := hfr19 0
 have hf19_1 : wr.frozen? ⟨go19, (x5_1 : Int).toNat * 5 + 1, none⟩ = false := hfr19 1
 have hf19_2 : wr.frozen? ⟨go19, (x5_1 : Int).toNat * 5 + 2, none⟩ = false := hfr19 2
 have hf19_3 : wr.frozen? ⟨go19, (x5_1 : Int).toNat * 5 + 3, none⟩ = false := hfr19 3
 have hf19_4 : wr.frozen? ⟨go19, (x5_1 : Int).toNat * 5 + 4, none⟩ = false := hfr19 4
 clear hcl19 hcc19 hfr19 hM19
 replace p19 := eq_true p19
 replace q19 := eq_true q19
 have HX22 := Aside0.mk (show Kd.R k91 91 wr w0.heap.size (fun k_ => (P0_ k_ ∨ w.heap.size ≤ k_)) (.slice (some ⟨go19, 0, none⟩) x0_2.length co4) x0_2 from (ze HO_0).out)
 obtain ⟨ce22, hcl22, hM22, hcc22, hfr22⟩ := Kd.R_elem HX22.out z91 (x5_1 : Int) (of_decide_eq_true zA) (zlt (x5_1 : Int) (x0_2.length : Int) (Kd.R_reads' HO_0.out).1)
 obtain rfl := k91_openM hM22
 have HP22 := Kd.R_seg HX22.out (x5_1 : Int) (of_decide_eq_true zA) (zlt (x5_1 : Int) (x0_2.length : Int) (Kd.R_reads' HO_0.out).1) (seg := [.int .i8 (IntKind.i8.wrap (x1_2))]) (j := 2) hcl22 hcc22 (show 3 ≤ 5 from by decide) (x' := (⟨(⟨(rd_T91 x0_2 x5_1).f0.f0, (rd_T91 x0_2 x5_1).f0.f1⟩ : S74), IntKind.i8.wrap (x1_2), (rd_T91 x0_2 x5_1).f2, (rd_T91 x0_2 x5_1).f3⟩ : S91)) (k91_mkM _ _ _ (⟨(⟨(rd_T91 x0_2 x5_1).f0.f0, (rd_T91 x0_2 x5_1).f0.f1⟩ : S74), IntKind.i8.wrap (x1_2), (rd_T91 x0_2 x5_1).f2, (rd_T91 x0_2 x5_1).f3⟩ : S91) ) (fun _ hk => hk)
 have hx22_2 := hcc22 2 _ rfl
 (try simp only [show (k91).sz = 5 from rfl, Nat.mul_one, Nat.add_zero] at hx22_2)
 have hf22_2 := hfr22 2
 (try simp only [show (k91).sz = 5 from rfl, Nat.mul_one, Nat.add_zero] at hf22_2)
 clear hcl22 hcc22 hfr22 hM22
 go_wp2_with (first | ((with_reducible refine gate_store (t := 22) (p := 32) rfl ?_); refine store_event (t := 22) (p := 32) (v := ?vo_w23) (w1 := (wr.setCell ⟨go19, (x5_1 : Int).toNat * 5 + 2, none⟩ (.int .i8 (IntKind.i8.wrap (x1_2))))) ?hg ?ho ?hn ?hr ?_; (case ho => rfl); (case hg => rfl); (case hn => rfl); (case hr => exact zgs); intro w23 hw; have hg : wr.grownBy w23 (some go19) := (by rw [hw]; exact HP22.2); have hp_ : Kd.R k91 91 w23 w0.heap.size (fun k_ => (P0_ k_ ∨ w.heap.size ≤ k_)) (.slice (some ⟨go19, 0, none⟩) x0_2.length co4) y192 := (by rw [hw, Ny192.out]; exact HP22.1); clear HP22; have n_ : _ ∧ _ ∧ _ := ⟨Aside0.mk (hp_), Aside0.mk ((by rw [hw]; exact below_set (HB.out) GB19.out : Below w0.heap.size w0 w23)), Aside0.mk (Kept.of_grown (S := (fun k_ => P0_ k_)) hg (by repeat (first | (with_reducible first | exact HK.out | apply Kept.alloc | apply Kept.drewN | apply Kept.drew) | exact HK.out)) (fun k_ e_ => (HO_0.out.1 k_ e_)))⟩; clear HO_0 HB HK; obtain ⟨HO_0, HB, HK⟩ := n_; clear hg hw hp_; have p20 : 0 ≤ (x5_1 : Int) := of_decide_eq_true zA; have q20 : (x5_1 : Int) < ((x0_2.length : Int) : Int) := of_decide_eq_true zA; obtain ⟨ce20, hcl20, hM20, hcc20, hfr20⟩ := Kd.R_elem HO_0.out z91 (x5_1 : Int) p20 q20; obtain rfl := k91_openM hM20; have hx20_0 : w23.cell? ⟨go19, (x5_1 : Int).toNat * 5, none⟩ = some (.int .i8 ((rd_T91 y192 x5_1).f0.f0)) := hcc20 0 _ rfl; have hx20_1 : w23.cell? ⟨go19, (x5_1 : Int).toNat * 5 + 1, none⟩ = some (.int .i8 ((rd_T91 y192 x5_1).f0.f1)) := hcc20 1 _ rfl; have hx20_2 : w23.cell? ⟨go19, (x5_1 : Int).toNat * 5 + 2, none⟩ = some (.int .i8 ((rd_T91 y192 x5_1).f1)) := hcc20 2 _ rfl; have hx20_3 : w23.cell? ⟨go19, (x5_1 : Int).toNat * 5 + 3, none⟩ = some (.int .i8 ((rd_T91 y192 x5_1).f2)) := hcc20 3 _ rfl; have hx20_4 : w23.cell? ⟨go19, (x5_1 : Int).toNat * 5 + 4, none⟩ = some (.int .i8 ((rd_T91 y192 x5_1).f3)) := hcc20 4 _ rfl; have hf20_0 : w23.frozen? ⟨go19, (x5_1 : Int).toNat * 5, none⟩ = false := hfr20 0; have hf20_1 : w23.frozen? ⟨go19, (x5_1 : Int).toNat * 5 + 1, none⟩ = false := hfr20 1; have hf20_2 : w23.frozen? ⟨go19, (x5_1 : Int).toNat * 5 + 2, none⟩ = false := hfr20 2; have hf20_3 : w23.frozen? ⟨go19, (x5_1 : Int).toNat * 5 + 3, none⟩ = false := hfr20 3; have hf20_4 : w23.frozen? ⟨go19, (x5_1 : Int).toNat * 5 + 4, none⟩ = false := hfr20 4; clear hcl20 hcc20 hfr20 hM20; replace p20 := eq_true p20; replace q20 := eq_true q20; have HX24 := Aside0.mk (show Kd.R k91 91 w23 w0.heap.size (fun k_ => (P0_ k_ ∨ w.heap.size ≤ k_)) (.slice (some ⟨go19, 0, none⟩) x0_2.length co4) y192 from (ze HO_0).out); obtain ⟨ce24, hcl24, hM24, hcc24, hfr24⟩ := Kd.R_elem HX24.out z91 (x5_1 : Int) (of_decide_eq_true zA) (zlt (x5_1 : Int) (x0_2.length : Int) (Kd.R_reads' HO_0.out).1); obtain rfl := k91_openM hM24; have HP24 := Kd.R_seg HX24.out (x5_1 : Int) (of_decide_eq_true zA) (zlt (x5_1 : Int) (x0_2.length : Int) (Kd.R_reads' HO_0.out).1) (seg := [.int .i8 (IntKind.i8.wrap (wrap64 (x1_2 + 1)))]) (j := 3) hcl24 hcc24 (show 4 ≤ 5 from by decide) (x' := (⟨(⟨(rd_T91 y192 x5_1).f0.f0, (rd_T91 y192 x5_1).f0.f1⟩ : S74), (rd_T91 y192 x5_1).f1, IntKind.i8.wrap (wrap64 (x1_2 + 1)), (rd_T91 y192 x5_1).f3⟩ : S91)) (k91_mkM _ _ _ (⟨(⟨(rd_T91 y192 x5_1).f0.f0, (rd_T91 y192 x5_1).f0.f1⟩ : S74), (rd_T91 y192 x5_1).f1, IntKind.i8.wrap (wrap64 (x1_2 + 1)), (rd_T91 y192 x5_1).f3⟩ : S91) ) (fun _ hk => hk); have hx24_3 := hcc24 3 _ rfl; (try simp only [show (k91).sz = 5 from rfl, Nat.mul_one, Nat.add_zero] at hx24_3); have hf24_3 := hfr24 3; (try simp only [show (k91).sz = 5 from rfl, Nat.mul_one, Nat.add_zero] at hf24_3); clear hcl24 hcc24 hfr24 hM24) | ((with_reducible refine gate_store (t := 22) (p := 40) rfl ?_); refine store_event (t := 22) (p := 40) (v := ?vo_w25) (w1 := (w23.setCell ⟨go19, (x5_1 : Int).toNat * 5 + 3, none⟩ (.int .i8 (IntKind.i8.wrap (wrap64 (x1_2 + 1)))))) ?hg ?ho ?hn ?hr ?_; (case ho => rfl); (case hg => rfl); (case hn => rfl); (case hr => exact zgs); intro w25 hw; have hg : w23.grownBy w25 (some go19) := (by rw [hw]; exact HP24.2); have hp_ : Kd.R k91 91 w25 w0.heap.size (fun k_ => (P0_ k_ ∨ w.heap.size ≤ k_)) (.slice (some ⟨go19, 0, none⟩) x0_2.length co4) y193 := (by rw [hw, Ny193.out]; exact HP24.1); clear HP24; have n_ : _ ∧ _ ∧ _ := ⟨Aside0.mk (hp_), Aside0.mk ((by rw [hw]; exact below_set (HB.out) GB19.out : Below w0.heap.size w0 w25)), Aside0.mk (Kept.of_grown (S := (fun k_ => P0_ k_)) hg (by repeat (first | (with_reducible first | exact HK.out | apply Kept.alloc | apply Kept.drewN | apply Kept.drew) | exact HK.out)) (fun k_ e_ => (HO_0.out.1 k_ e_)))⟩; clear HO_0 HB HK; obtain ⟨HO_0, HB, HK⟩ := n_; clear hg hw hp_; have p21 : 0 ≤ (x5_1 : Int) := of_decide_eq_true zA; have q21 : (x5_1 : Int) < ((x0_2.length : Int) : Int) := of_decide_eq_true zA; obtain ⟨ce21, hcl21, hM21, hcc21, hfr21⟩ := Kd.R_elem HO_0.out z91 (x5_1 : Int) p21 q21; obtain rfl := k91_openM hM21; have hx21_0 : w25.cell? ⟨go19, (x5_1 : Int).toNat * 5, none⟩ = some (.int .i8 ((rd_T91 y193 x5_1).f0.f0)) := hcc21 0 _ rfl; have hx21_1 : w25.cell? ⟨go19, (x5_1 : Int).toNat * 5 + 1, none⟩ = some (.int .i8 ((rd_T91 y193 x5_1).f0.f1)) := hcc21 1 _ rfl; have hx21_2 : w25.cell? ⟨go19, (x5_1 : Int).toNat * 5 + 2, none⟩ = some (.int .i8 ((rd_T91 y193 x5_1).f1)) := hcc21 2 _ rfl; have hx21_3 : w25.cell? ⟨go19, (x5_1 : Int).toNat * 5 + 3, none⟩ = some (.int .i8 ((rd_T91 y193 x5_1).f2)) := hcc21 3 _ rfl; have hx21_4 : w25.cell? ⟨go19, (x5_1 : Int).toNat * 5 + 4, none⟩ = some (.int .i8 ((rd_T91 y193 x5_1).f3)) := hcc21 4 _ rfl; have hf21_0 : w25.frozen? ⟨go19, (x5_1 : Int).toNat * 5, none⟩ = false := hfr21 0; have hf21_1 : w25.frozen? ⟨go19, (x5_1 : Int).toNat * 5 + 1, none⟩ = false := hfr21 1; have hf21_2 : w25.frozen? ⟨go19, (x5_1 : Int).toNat * 5 + 2, none⟩ = false := hfr21 2; have hf21_3 : w25.frozen? ⟨go19, (x5_1 : Int).toNat * 5 + 3, none⟩ = false := hfr21 3; have hf21_4 : w25.frozen? ⟨go19, (x5_1 : Int).toNat * 5 + 4, none⟩ = false := hfr21 4; clear hcl21 hcc21 hfr21 hM21; replace p21 := eq_true p21; replace q21 := eq_true q21; have HX26 := Aside0.mk (show Kd.R k91 91 w25 w0.heap.size (fun k_ => (P0_ k_ ∨ w.heap.size ≤ k_)) (.slice (some ⟨go19, 0, none⟩) x0_2.length co4) y193 from (ze HO_0).out); obtain ⟨ce26, hcl26, hM26, hcc26, hfr26⟩ := Kd.R_elem HX26.out z91 (x5_1 : Int) (of_decide_eq_true zA) (zlt (x5_1 : Int) (x0_2.length : Int) (Kd.R_reads' HO_0.out).1); obtain rfl := k91_openM hM26; have HP26 := Kd.R_seg HX26.out (x5_1 : Int) (of_decide_eq_true zA) (zlt (x5_1 : Int) (x0_2.length : Int) (Kd.R_reads' HO_0.out).1) (seg := [.int .i8 (IntKind.i8.wrap (wrap64 ((wrap64 (x1_2 + 1)) + 1)))]) (j := 4) hcl26 hcc26 (show 5 ≤ 5 from by decide) (x' := (⟨(⟨(rd_T91 y193 x5_1).f0.f0, (rd_T91 y193 x5_1).f0.f1⟩ : S74), (rd_T91 y193 x5_1).f1, (rd_T91 y193 x5_1).f2, IntKind.i8.wrap (wrap64 ((wrap64 (x1_2 + 1)) + 1))⟩ : S91)) (k91_mkM _ _ _ (⟨(⟨(rd_T91 y193 x5_1).f0.f0, (rd_T91 y193 x5_1).f0.f1⟩ : S74), (rd_T91 y193 x5_1).f1, (rd_T91 y193 x5_1).f2, IntKind.i8.wrap (wrap64 ((wrap64 (x1_2 + 1)) + 1))⟩ : S91) ) (fun _ hk => hk); have hx26_4 := hcc26 4 _ rfl; (try simp only [show (k91).sz = 5 from rfl, Nat.mul_one, Nat.add_zero] at hx26_4); have hf26_4 := hfr26 4; (try simp only [show (k91).sz = 5 from rfl, Nat.mul_one, Nat.add_zero] at hf26_4); clear hcl26 hcc26 hfr26 hM26) | ((with_reducible refine gate_store (t := 22) (p := 48) rfl ?_); refine store_event (t := 22) (p := 48) (v := ?vo_w27) (w1 := (w25.setCell ⟨go19, (x5_1 : Int).toNat * 5 + 4, none⟩ (.int .i8 (IntKind.i8.wrap (wrap64 ((wrap64 (x1_2 + 1)) + 1)))))) ?hg ?ho ?hn ?hr ?_; (case ho => rfl); (case hg => rfl); (case hn => rfl); (case hr => exact zgs); intro w27 hw; have hg : w25.grownBy w27 (some go19) := (by rw [hw]; exact HP26.2); have hp_ : Kd.R k91 91 w27 w0.heap.size (fun k_ => (P0_ k_ ∨ w.heap.size ≤ k_)) (.slice (some ⟨go19, 0, none⟩) x0_2.length co4) y194 := (by rw [hw, Ny194.out]; exact HP26.1); clear HP26; have n_ : _ ∧ _ ∧ _ := ⟨Aside0.mk (hp_), Aside0.mk ((by rw [hw]; exact below_set (HB.out) GB19.out : Below w0.heap.size w0 w27)), Aside0.mk (Kept.of_grown (S := (fun k_ => P0_ k_)) hg (by repeat (first | (with_reducible first | exact HK.out | apply Kept.alloc | apply Kept.drewN | apply Kept.drew) | exact HK.out)) (fun k_ e_ => (HO_0.out.1 k_ e_)))⟩; clear HO_0 HB HK; obtain ⟨HO_0, HB, HK⟩ := n_; clear hg hw hp_))
 (try simp only [← hl0_2])
 go_roundg k2
 case measure => have := HK1.out; have := HK2.out; omega
 case rel => exact ⟨(y194), (wrap64 ((wrap64 ((wrap64 (x1_2 + 1)) + 1)) + 1)), (wrap64 (x5_1 + 1)), zi, zi, H', ⟨by have := HK1.out; have := HK2.out; omega⟩, ⟨by (try simp only [hl0_2]); (with_reducible repeat (first | apply Kd.R_alloc | apply Kd.R_drewN | apply Kd.R_drew)); exact HO_0.out⟩, ⟨by repeat (first | (with_reducible first | exact HK.out | apply Kept.alloc | apply Kept.drewN | apply Kept.drew) | exact HK.out)⟩, zl HB⟩
def laws_markBoard.f (k : Nat) (a0_0 : Int) (a0_1 : Int) (l0_2 : List (S91)) (a1 : Int) : Option (Int × (List (S91))) := (laws_markPieceS.f k l0_2 a1).bind fun bt196 => (some (bt196.1, bt196.2))
theorem laws_markBoard.mono : ∀ a0 a1 a2 a3 k, LeO (laws_markBoard.f k a0 a1 a2 a3) (laws_markBoard.f (k + 1) a0 a1 a2 a3) := by
 intro a0 a1 a2 a3 k
 unfold laws_markBoard.f
 repeat' first | (with_reducible first | apply laws_markPieceS.mono | exact LeO.refl _ | exact LeO.none _ | refine LeO.ite ?_ ?_ | refine LeO.bind ?_ (fun _ => ?_)) | apply laws_markPieceS.mono | exact LeO.none _ | refine LeO.ite ?_ ?_ | refine LeO.bind ?_ (fun _ => ?_)
theorem laws_markBoard.calls (k : Nat) (a0_0 : Int) (a0_1 : Int) (P0_2_ : Nat → Prop) (u9000_ : Value) (l0_2 : List (S91)) (a1 : Int) (r1 : Int) (r2 : List (S91)) (w0 w : World) (hB : Below w0.heap.size w0 w) (ho0_2 : Kd.R k91 91 w w0.heap.size P0_2_ u9000_ l0_2) (h : laws_markBoard.f k a0_0 a0_1 l0_2 a1 = some (r1, r2)) :
    Calls Try.prog 50 #[.agg #[.int .i8 a0_0, .int .i8 a0_1, u9000_], .int .i64 a1] w fun e w' => e = .returned (.int .i64 r1) ∧ Kd.R k91 91 w' w0.heap.size (fun k_ => (P0_2_ k_ ∨ w.heap.size ≤ k_)) u9000_ r2 ∧ Below w0.heap.size w0 w' ∧ Kept w w' (fun k_ => P0_2_ k_) := by
 have hu37 := Try.underlying37
 have HO0_2 := Aside0.mk (show Kd.R k91 91 w w0.heap.size (fun k_ => (P0_2_ k_ ∨ w.heap.size ≤ k_)) u9000_ l0_2 from Kd.R_mono ho0_2 (fun k_ hk => (.inl hk)))
 have HK := Aside0.mk (Kept.refl w (fun k_ => P0_2_ k_))
 have HW0 := Aside0.mk hB.size
 have HB := Aside0.mk hB
 clear hB
 have H : ((laws_markPieceS.f k l0_2 a1).bind fun bt196 => (some (bt196.1, bt196.2))) = some (r1, r2) := h
 clear h
 replace H := zob H
 obtain ⟨⟨t196, t197⟩, A30, H⟩ := H
 replace H : (some (t196, t197)) = some (r1, r2) := H
 have A3 := Aside0.mk A30
 clear A30
 simp only [Option.some.injEq, Prod.mk.injEq] at H
 obtain ⟨rfl, rfl⟩ := H
 obtain ⟨Ao4, co4, eo4⟩ := Kd.R_slice HO0_2.out
 subst eo4
 go_enter Try.func50, Try.ntmps50
 go_wp2_with (first | ((with_reducible refine gate_dst (N := 2) rfl ?_); refine zbx 2 #[.int .i8 a0_0, .int .i8 a0_1, .slice Ao4 l0_2.length co4] 37 ?_; intro gb195 hg w5 hbox hb; have n_ : _ ∧ _ ∧ _ ∧ _ ∧ _ ∧ _ := ⟨zr HO0_2 hb, Aside0.mk (Kept.below (S := (fun k_ => P0_2_ k_)) (by repeat (first | (with_reducible first | exact HK.out | apply Kept.alloc | apply Kept.drewN | apply Kept.drew) | exact HK.out)) hb), zb HB hb, Aside0.mk (hbox), Aside0.mk ((by rw [hg]; exact (by first | exact HK.out.1 | exact (show Kept w _ (fun k_ => P0_2_ k_) from by repeat (first | (with_reducible first | exact HK.out | apply Kept.alloc | apply Kept.drewN | apply Kept.drew) | exact HK.out)).1) : w.heap.size ≤ gb195)), Aside0.mk ((by rw [hg]; exact (zz HB) : w0.heap.size ≤ gb195))⟩; clear HO0_2 HK HB; obtain ⟨HO0_2, HK, HB, BK195, GW195, GE195⟩ := n_; clear hb hbox hg; obtain ⟨z6_0, z6_1, z6_2, y6_0, y6_1, y6_2⟩ := zB3 BK195) | ((with_reducible refine gate_callee (f := 117) rfl ?_); refine goesL_ (some 8) rfl rfl Try.func117 (by kernel_rfl) rfl #[.slice Ao4 l0_2.length co4, .int .i64 a1] rfl zm ?_; (with_reducible refine (laws_markPieceS.calls k (fun k_ => some k_ = (.slice Ao4 l0_2.length co4 : Value).ownBlock) (.slice Ao4 l0_2.length co4) l0_2 a1 t196 t197 w0 _ ?side1 ?side2 A3.out).mono ?_); (case side1 => exact zbo); (case side2 => exact Kd.R_tight rfl HO0_2.out); rintro e w7 ⟨rfl, hy0, hb, hkp⟩; refine ⟨_, rfl, ?_⟩; have n_ : _ ∧ _ ∧ _ ∧ _ := ⟨Aside0.mk (Kd.R_reok rfl hy0 (fun k_ e_ => HO0_2.out.1 k_ e_)), zkr BK195 hkp (fun hs_ => (fun e_ => (Kd.R_ne HO0_2.out BK195.out (by decide)) e_) hs_), Aside0.mk (Kept.then_ (S := (fun k_ => P0_2_ k_)) (by repeat (first | (with_reducible first | exact HK.out | apply Kept.alloc | apply Kept.drewN | apply Kept.drew | refine Kept.setCell ?_ (.inr GW195.out) _) | exact HK.out)) hkp (fun k_ hs_ => (fun e_ => (HO0_2.out.1 k_ e_.symm)) hs_)), Aside0.mk (hb)⟩; clear HO0_2 BK195 HK HB; obtain ⟨HO0_2, BK195, HK, HB⟩ := n_; (try clear hb); (try clear hkp); (try clear hy0)))
 go_ret
 exact ⟨zv, by (with_reducible repeat (first | apply Kd.R_alloc | apply Kd.R_drewN | apply Kd.R_drew)); exact HO0_2.out, zbo, by repeat (first | (with_reducible first | exact HK.out | apply Kept.alloc | apply Kept.drewN | apply Kept.drew | refine Kept.setCell ?_ (.inr GW195.out) _) | exact HK.out)⟩
mutual
def laws_markPortS.l0 : Nat → List (S116) → Int → Int → Option (Int × (List (S116)))
  | 0, _, _, _ => none
  | k + 1, x0, x1, x5 => if x5 < (x0.length : Int) then (laws_markPortS.l1 k x0 x1 x5 0) else (some (x1, x0))
def laws_markPortS.l1 : Nat → List (S116) → Int → Int → Int → Option (Int × (List (S116)))
  | 0, _, _, _, _ => none
  | k + 1, x0, x1, x5, x6 => if x6 < 2 then (if 0 ≤ x5 then (if x5 < (x0.length : Int) then (if x6 = 0 then (laws_markPortS.l1 k (x0.set (x5 : Int).toNat (⟨(⟨IntKind.i8.wrap (x1), (rd_T116 x0 x5).f0.f1⟩ : S74), (rd_T116 x0 x5).f1⟩ : S116)) (wrap64 (x1 + 1)) x5 (wrap64 (x6 + 1))) else (if x6 = 1 then (laws_markPortS.l1 k (x0.set (x5 : Int).toNat (⟨(⟨(rd_T116 x0 x5).f0.f0, IntKind.i8.wrap (x1)⟩ : S74), (rd_T116 x0 x5).f1⟩ : S116)) (wrap64 (x1 + 1)) x5 (wrap64 (x6 + 1))) else (none))) else (none)) else (none)) else (if 0 ≤ x5 then (if x5 < (x0.length : Int) then (laws_markPortS.l0 k (x0.set (x5 : Int).toNat (⟨(⟨(rd_T116 x0 x5).f0.f0, (rd_T116 x0 x5).f0.f1⟩ : S74), IntKind.i8.wrap (x1)⟩ : S116)) (wrap64 (x1 + 1)) (wrap64 (x5 + 1))) else (none)) else (none))
end
def laws_markPortS.f (k : Nat) (l0 : List (S116)) (a1 : Int) : Option (Int × (List (S116))) := laws_markPortS.l0 k l0 a1 0
theorem laws_markPortS.mono_l : ∀ k, (∀ y0 y1 y2, LeO (laws_markPortS.l0 k y0 y1 y2) (laws_markPortS.l0 (k + 1) y0 y1 y2)) ∧ (∀ y0 y1 y2 y3, LeO (laws_markPortS.l1 k y0 y1 y2 y3) (laws_markPortS.l1 (k + 1) y0 y1 y2 y3))
  | 0 => ⟨fun _ _ _ r h => by simp [laws_markPortS.l0] at h, fun _ _ _ _ r h => by simp [laws_markPortS.l1] at h⟩
  | k + 1 => by
    obtain ⟨ih0, ih1⟩ := laws_markPortS.mono_l k
    refine ⟨?_, ?_⟩
    · intro y0 y1 y2
      unfold laws_markPortS.l0
      repeat' first | (with_reducible first | apply ih0 | apply ih1 | exact LeO.refl _ | exact LeO.none _ | refine LeO.ite ?_ ?_ | refine LeO.bind ?_ (fun _ => ?_)) | apply ih0 | apply ih1 | exact LeO.none _ | refine LeO.ite ?_ ?_ | refine LeO.bind ?_ (fun _ => ?_)
    · intro y0 y1 y2 y3
      unfold laws_markPortS.l1
      repeat' first | (with_reducible first | apply ih0 | apply ih1 | exact LeO.refl _ | exact LeO.none _ | refine LeO.ite ?_ ?_ | refine LeO.bind ?_ (fun _ => ?_)) | apply ih0 | apply ih1 | exact LeO.none _ | refine LeO.ite ?_ ?_ | refine LeO.bind ?_ (fun _ => ?_)
theorem laws_markPortS.mono : ∀ a0 a1 k, LeO (laws_markPortS.f k a0 a1) (laws_markPortS.f (k + 1) a0 a1) := by
 intro a0 a1 k
 obtain ⟨ih0, ih1⟩ := laws_markPortS.mono_l k
 unfold laws_markPortS.f
 repeat' first | (with_reducible first | apply ih0 | apply ih1 | exact LeO.refl _ | exact LeO.none _ | refine LeO.ite ?_ ?_ | refine LeO.bind ?_ (fun _ => ?_)) | apply ih0 | apply ih1 | exact LeO.none _ | refine LeO.ite ?_ ?_ | refine LeO.bind ?_ (fun _ => ?_)
theorem laws_markPortS.calls (k : Nat) (P0_ : Nat → Prop) (u9000_ : Value) (l0 : List (S116)) (a1 : Int) (r1 : Int) (r2 : List (S116)) (w0 w : World) (hB : Below w0.heap.size w0 w) (ho0 : Kd.R k116 116 w w0.heap.size P0_ u9000_ l0) (h : laws_markPortS.f k l0 a1 = some (r1, r2)) :
    Calls Try.prog 94 #[u9000_, .int .i64 a1] w fun e w' => e = .returned (.int .i64 r1) ∧ Kd.R k116 116 w' w0.heap.size (fun k_ => (P0_ k_ ∨ w.heap.size ≤ k_)) u9000_ r2 ∧ Below w0.heap.size w0 w' ∧ Kept w w' (fun k_ => P0_ k_) := by
 have HO0 := Aside0.mk (show Kd.R k116 116 w w0.heap.size (fun k_ => (P0_ k_ ∨ w.heap.size ≤ k_)) u9000_ l0 from Kd.R_mono ho0 (fun k_ hk => (.inl hk)))
 have HK := Aside0.mk (Kept.refl w (fun k_ => P0_ k_))
 have HW0 := Aside0.mk hB.size
 have HB := Aside0.mk hB
 clear hB
 have H : (laws_markPortS.l0 k l0 a1 0) = some (r1, r2) := h
 clear h
 have H' := Aside0.mk H
 clear H
 go_enter Try.func94, Try.ntmps94
 go_wp2
 go_loopg [1, 5] k (fun kq v1 v5 w' => ∃ (x0_1 : List (S116)) (x1_1 : Int) (x5_1 : Int), v1 = .int .i64 x1_1 ∧ v5 = .int .i64 x5_1 ∧ Aside0 (laws_markPortS.l0 kq x0_1 x1_1 x5_1 = some (r1, r2)) ∧ Aside0 (kq ≤ k) ∧ Aside0 (Kd.R k116 116 w' w0.heap.size (fun k_ => (P0_ k_ ∨ w.heap.size ≤ k_)) u9000_ x0_1) ∧ Aside0 (Kept w w' (fun k_ => P0_ k_)) ∧ Aside0 (Below w0.heap.size w0 w'))
 case atStart => exact ⟨(l0), (a1), (0), zi, zi, H', ⟨Nat.le_refl _⟩, ze HO0, ⟨by repeat (first | (with_reducible first | exact HK.out | apply Kept.alloc | apply Kept.drewN | apply Kept.drew) | exact HK.out)⟩, zl HB⟩
 clear H'
 try clear p2
 obtain ⟨x0_1, x1_1, x5_1, rfl, rfl, HA, HK1, HO_0, HK, HB⟩ := hrel
 cases gk with
 | zero => exact absurd HA.out (by simp [laws_markPortS.l0])
 | succ k1 => ?_
 have H := HA.out
 clear HA
 simp only [laws_markPortS.l0] at H
 by_cases c3 : x5_1 < (x0_1.length : Int)
 rotate_left
 ·rw [if_neg c3] at H
  have c3b0 : decide (x5_1 < (x0_1.length : Int)) = false := decide_eq_false c3
  clear c3
  simp only [Option.some.injEq, Prod.mk.injEq] at H
  obtain ⟨rfl, rfl⟩ := H
  obtain ⟨Ao22, co22, eo22⟩ := Kd.R_slice HO_0.out
  subst eo22
  go_wp2
  go_ret
  exact ⟨zv, by (with_reducible repeat (first | apply Kd.R_alloc | apply Kd.R_drewN | apply Kd.R_drew)); exact HO_0.out, zbo, by repeat (first | (with_reducible first | exact HK.out | apply Kept.alloc | apply Kept.drewN | apply Kept.drew) | exact HK.out)⟩
 rw [if_pos c3] at H
 have c3b0 : decide (x5_1 < (x0_1.length : Int)) = true := decide_eq_true c3
 clear c3
 have H' := Aside0.mk H
 clear H
 obtain ⟨Ao4, co4, eo4⟩ := Kd.R_slice HO_0.out
 subst eo4
 go_wp2
 go_loopg [1, 6] k1 (fun kq v1 v6 w' => ∃ (x0_2 : List (S116)) (x1_2 : Int) (x6_2 : Int), v1 = .int .i64 x1_2 ∧ v6 = .int .i64 x6_2 ∧ Aside0 (laws_markPortS.l1 kq x0_2 x1_2 x5_1 x6_2 = some (r1, r2)) ∧ Aside0 (kq ≤ k1) ∧ Aside0 (Kd.R k116 116 w' w0.heap.size (fun k_ => (P0_ k_ ∨ w.heap.size ≤ k_)) (.slice Ao4 x0_1.length co4) x0_2) ∧ Aside0 (Kept w w' (fun k_ => P0_ k_)) ∧ Aside0 (Below w0.heap.size w0 w'))
 case atStart => exact ⟨(x0_1), (x1_1), (0), zi, zi, H', ⟨Nat.le_refl _⟩, ze HO_0, ⟨by repeat (first | (with_reducible first | exact HK.out | apply Kept.alloc | apply Kept.drewN | apply Kept.drew) | exact HK.out)⟩, zl HB⟩
 clear H'
 try clear p2
 try clear c3
 try clear c3b0
 try clear p2
 obtain ⟨x0_2, x1_2, x6_2, rfl, rfl, HA, HK2, HO_0, HK, HB⟩ := hrel
 have hl0_2 := (Kd.R_reads' HO_0.out).1
 rw [hl0_2] at HO_0
 (try simp only [hl0_2])
 cases gk with
 | zero => exact absurd HA.out (by simp [laws_markPortS.l1])
 | succ k2 => ?_
 have H := HA.out
 clear HA
 simp only [laws_markPortS.l1] at H
 by_cases c5 : x6_2 < 2
 rotate_left
 ·rw [if_neg c5] at H
  have c5b0 : decide (x6_2 < 2) = false := decide_eq_false c5
  clear c5
  by_cases c17 : 0 ≤ x5_1
  rotate_left
  ·rw [if_neg c17] at H
   exact absurd H (by simp)
  rw [if_pos c17] at H
  have c17b0 : decide (0 ≤ x5_1) = true := decide_eq_true c17
  clear c17
  by_cases c18 : x5_1 < (x0_2.length : Int)
  rotate_left
  ·rw [if_neg c18] at H
   exact absurd H (by simp)
  rw [if_pos c18] at H
  have c18b0 : decide (x5_1 < (x0_2.length : Int)) = true := decide_eq_true c18
  clear c18
  obtain ⟨y200, hy200⟩ : ∃ y_ : List (S116), y_ = (x0_2.set (x5_1 : Int).toNat (⟨(⟨(rd_T116 x0_2 x5_1).f0.f0, (rd_T116 x0_2 x5_1).f0.f1⟩ : S74), IntKind.i8.wrap (x1_2)⟩ : S116)) := ⟨_, rfl⟩
  replace H : (laws_markPortS.l0 k2 y200 (wrap64 (x1_2 + 1)) (wrap64 (x5_1 + 1))) = some (r1, r2) := by first | (rw [hy200]; with_reducible exact H) | (have H2_ := (Option.bind_some _ _).symm.trans H; rw [hy200]; with_reducible exact H2_) | (have H2_ := (Option.bind_some _ _).symm.trans H; with_reducible exact H2_) | with_reducible exact H | (rw [hy200]; exact H) | exact H
  have Ny200 := Aside0.mk hy200
  clear hy200
  have H' := Aside0.mk H
  clear H
  have p19 : 0 ≤ (x5_1 : Int) := of_decide_eq_true zA
  have q19 : (x5_1 : Int) < ((x0_2.length : Int) : Int) := of_decide_eq_true zA
  obtain ⟨go19, co19, eo19, gb19, gl19, cl19, HG19⟩ := Kd.R_form HO_0.out (by omega)
  (first | cases eo19 | (injection eo19 with ea_ en_ ec_; (first | subst ea_ | (injection ea_ with ea_; subst ea_)); subst ec_; clear en_))
  have GB19 := Aside0.mk gb19
  have GG19 := Aside0.mk HG19
  clear gb19 gl19 HG19
  have HMgo19 := Aside0.mk (show (P0_ go19 ∨ w.heap.size ≤ go19) from (HO_0.out.1 _ rfl))
  obtain ⟨ce19, hcl19, hM19, hcc19, hfr19⟩ := Kd.R_elem HO_0.out z116 (x5_1 : Int) p19 q19
  obtain rfl := k116_openM hM19
  have hx19_0 : wr.cell? ⟨go19, (x5_1 : Int).toNat * 3, none⟩ = some (.int .i8 ((rd_T116 x0_2 x5_1).f0.f0)) := hcc19 0 _ rfl
  have hx19_1 : wr.cell? ⟨go19, (x5_1 : Int).toNat * 3 + 1, none⟩ = some (.int .i8 ((rd_T116 x0_2 x5_1).f0.f1)) := hcc19 1 _ rfl
  have hx19_2 : wr.cell? ⟨go19, (x5_1 : Int).toNat * 3 + 2, none⟩ = some (.int .i8 ((rd_T116 x0_2 x5_1).f1)) := hcc19 2 _ rfl
  have hf19_0 : wr.frozen? ⟨go19, (x5_1 : Int).toNat * 3, none⟩ = false := hfr19 0
  have hf19_1 : wr.frozen? ⟨go19, (x5_1 : Int).toNat * 3 + 1, none⟩ = false := hfr19 1
  have hf19_2 : wr.frozen? ⟨go19, (x5_1 : Int).toNat * 3 + 2, none⟩ = false := hfr19 2
  clear hcl19 hcc19 hfr19 hM19
  replace p19 := eq_true p19
  replace q19 := eq_true q19
  have HX20 := Aside0.mk (show Kd.R k116 116 wr w0.heap.size (fun k_ => (P0_ k_ ∨ w.heap.size ≤ k_)) (.slice (some ⟨go19, 0, none⟩) x0_2.length co4) x0_2 from (ze HO_0).out)
  obtain ⟨ce20, hcl20, hM20, hcc20, hfr20⟩ := Kd.R_elem HX20.out z116 (x5_1 : Int) (of_decide_eq_true zA) (zlt (x5_1 : Int) (x0_2.length : Int) (Kd.R_reads' HO_0.out).1)
  obtain rfl := k116_openM hM20
  have HP20 := Kd.R_seg HX20.out (x5_1 : Int) (of_decide_eq_true zA) (zlt (x5_1 : Int) (x0_2.length : Int) (Kd.R_reads' HO_0.out).1) (seg := [.int .i8 (IntKind.i8.wrap (x1_2))]) (j := 2) hcl20 hcc20 (show 3 ≤ 3 from by decide) (x' := (⟨(⟨(rd_T116 x0_2 x5_1).f0.f0, (rd_T116 x0_2 x5_1).f0.f1⟩ : S74), IntKind.i8.wrap (x1_2)⟩ : S116)) (k116_mkM _ _ _ (⟨(⟨(rd_T116 x0_2 x5_1).f0.f0, (rd_T116 x0_2 x5_1).f0.f1⟩ : S74), IntKind.i8.wrap (x1_2)⟩ : S116) ) (fun _ hk => hk)
  have hx20_2 := hcc20 2 _ rfl
  (try simp only [show (k116).sz = 3 from rfl, Nat.mul_one, Nat.add_zero] at hx20_2)
  have hf20_2 := hfr20 2
  (try simp only [show (k116).sz = 3 from rfl, Nat.mul_one, Nat.add_zero] at hf20_2)
  clear hcl20 hcc20 hfr20 hM20
  go_wp2_with (first | ((with_reducible refine gate_store (t := 22) (p := 32) rfl ?_); refine store_event (t := 22) (p := 32) (v := ?vo_w21) (w1 := (wr.setCell ⟨go19, (x5_1 : Int).toNat * 3 + 2, none⟩ (.int .i8 (IntKind.i8.wrap (x1_2))))) ?hg ?ho ?hn ?hr ?_; (case ho => rfl); (case hg => rfl); (case hn => rfl); (case hr => exact zgs); intro w21 hw; have hg : wr.grownBy w21 (some go19) := (by rw [hw]; exact HP20.2); have hp_ : Kd.R k116 116 w21 w0.heap.size (fun k_ => (P0_ k_ ∨ w.heap.size ≤ k_)) (.slice (some ⟨go19, 0, none⟩) x0_2.length co4) y200 := (by rw [hw, Ny200.out]; exact HP20.1); clear HP20; have n_ : _ ∧ _ ∧ _ := ⟨Aside0.mk (hp_), Aside0.mk ((by rw [hw]; exact below_set (HB.out) GB19.out : Below w0.heap.size w0 w21)), Aside0.mk (Kept.of_grown (S := (fun k_ => P0_ k_)) hg (by repeat (first | (with_reducible first | exact HK.out | apply Kept.alloc | apply Kept.drewN | apply Kept.drew) | exact HK.out)) (fun k_ e_ => (HO_0.out.1 k_ e_)))⟩; clear HO_0 HB HK; obtain ⟨HO_0, HB, HK⟩ := n_; clear hg hw hp_))
  (try simp only [← hl0_2])
  go_roundg k2
  case measure => have := HK1.out; have := HK2.out; omega
  case rel => exact ⟨(y200), (wrap64 (x1_2 + 1)), (wrap64 (x5_1 + 1)), zi, zi, H', ⟨by have := HK1.out; have := HK2.out; omega⟩, ⟨by (try simp only [hl0_2]); (with_reducible repeat (first | apply Kd.R_alloc | apply Kd.R_drewN | apply Kd.R_drew)); exact HO_0.out⟩, ⟨by repeat (first | (with_reducible first | exact HK.out | apply Kept.alloc | apply Kept.drewN | apply Kept.drew) | exact HK.out)⟩, zl HB⟩
 rw [if_pos c5] at H
 have c5b0 : decide (x6_2 < 2) = true := decide_eq_true c5
 clear c5
 by_cases c6 : 0 ≤ x5_1
 rotate_left
 ·rw [if_neg c6] at H
  exact absurd H (by simp)
 rw [if_pos c6] at H
 have c6b0 : decide (0 ≤ x5_1) = true := decide_eq_true c6
 clear c6
 by_cases c7 : x5_1 < (x0_2.length : Int)
 rotate_left
 ·rw [if_neg c7] at H
  exact absurd H (by simp)
 rw [if_pos c7] at H
 have c7b0 : decide (x5_1 < (x0_2.length : Int)) = true := decide_eq_true c7
 clear c7
 by_cases c9 : x6_2 = 0
 ·rw [if_pos c9] at H
  have Ac9 : Aside0 (x6_2 = 0) := ⟨c9⟩
  clear c9
  have ar10e : x6_2 = 0 := by first | exact (show Aside0 (x6_2 = 0) by assumption).out | exact beq_iff_eq.mp (by assumption) | omega
  have ar10n : (x6_2).toNat = 0 := by rw [ar10e]; rfl
  have ar10l : decide (0 ≤ x6_2) = true := decide_eq_true (by omega)
  have ar10L := eq_true (of_decide_eq_true ar10l)
  have ar10h : decide (x6_2 < 2) = true := decide_eq_true (by omega)
  have ar10H := eq_true (of_decide_eq_true ar10h)
  clear ar10e
  obtain ⟨y198, hy198⟩ : ∃ y_ : List (S116), y_ = (x0_2.set (x5_1 : Int).toNat (⟨(⟨IntKind.i8.wrap (x1_2), (rd_T116 x0_2 x5_1).f0.f1⟩ : S74), (rd_T116 x0_2 x5_1).f1⟩ : S116)) := ⟨_, rfl⟩
  replace H : (laws_markPortS.l1 k2 y198 (wrap64 (x1_2 + 1)) x5_1 (wrap64 (x6_2 + 1))) = some (r1, r2) := by first | (rw [hy198]; with_reducible exact H) | (have H2_ := (Option.bind_some _ _).symm.trans H; rw [hy198]; with_reducible exact H2_) | (have H2_ := (Option.bind_some _ _).symm.trans H; with_reducible exact H2_) | with_reducible exact H | (rw [hy198]; exact H) | exact H
  have Ny198 := Aside0.mk hy198
  clear hy198
  have H' := Aside0.mk H
  clear H
  have p8 : 0 ≤ (x5_1 : Int) := of_decide_eq_true zA
  have q8 : (x5_1 : Int) < ((x0_2.length : Int) : Int) := of_decide_eq_true zA
  obtain ⟨go8, co8, eo8, gb8, gl8, cl8, HG8⟩ := Kd.R_form HO_0.out (by omega)
  (first | cases eo8 | (injection eo8 with ea_ en_ ec_; (first | subst ea_ | (injection ea_ with ea_; subst ea_)); subst ec_; clear en_))
  have GB8 := Aside0.mk gb8
  have GG8 := Aside0.mk HG8
  clear gb8 gl8 HG8
  have HMgo8 := Aside0.mk (show (P0_ go8 ∨ w.heap.size ≤ go8) from (HO_0.out.1 _ rfl))
  obtain ⟨ce8, hcl8, hM8, hcc8, hfr8⟩ := Kd.R_elem HO_0.out z116 (x5_1 : Int) p8 q8
  obtain rfl := k116_openM hM8
  have hx8_0 : wr.cell? ⟨go8, (x5_1 : Int).toNat * 3, none⟩ = some (.int .i8 ((rd_T116 x0_2 x5_1).f0.f0)) := hcc8 0 _ rfl
  have hx8_1 : wr.cell? ⟨go8, (x5_1 : Int).toNat * 3 + 1, none⟩ = some (.int .i8 ((rd_T116 x0_2 x5_1).f0.f1)) := hcc8 1 _ rfl
  have hx8_2 : wr.cell? ⟨go8, (x5_1 : Int).toNat * 3 + 2, none⟩ = some (.int .i8 ((rd_T116 x0_2 x5_1).f1)) := hcc8 2 _ rfl
  have hf8_0 : wr.frozen? ⟨go8, (x5_1 : Int).toNat * 3, none⟩ = false := hfr8 0
  have hf8_1 : wr.frozen? ⟨go8, (x5_1 : Int).toNat * 3 + 1, none⟩ = false := hfr8 1
  have hf8_2 : wr.frozen? ⟨go8, (x5_1 : Int).toNat * 3 + 2, none⟩ = false := hfr8 2
  clear hcl8 hcc8 hfr8 hM8
  replace p8 := eq_true p8
  replace q8 := eq_true q8
  have HX11 := Aside0.mk (show Kd.R k116 116 wr w0.heap.size (fun k_ => (P0_ k_ ∨ w.heap.size ≤ k_)) (.slice (some ⟨go8, 0, none⟩) x0_2.length co4) x0_2 from (ze HO_0).out)
  obtain ⟨ce11, hcl11, hM11, hcc11, hfr11⟩ := Kd.R_elem HX11.out z116 (x5_1 : Int) (of_decide_eq_true zA) (zlt (x5_1 : Int) (x0_2.length : Int) (Kd.R_reads' HO_0.out).1)
  obtain rfl := k116_openM hM11
  have HP11 := Kd.R_seg HX11.out (x5_1 : Int) (of_decide_eq_true zA) (zlt (x5_1 : Int) (x0_2.length : Int) (Kd.R_reads' HO_0.out).1) (seg := [.int .i8 (IntKind.i8.wrap (x1_2))]) (j := 0) hcl11 hcc11 (show 1 ≤ 3 from by decide) (x' := (⟨(⟨IntKind.i8.wrap (x1_2), (rd_T116 x0_2 x5_1).f0.f1⟩ : S74), (rd_T116 x0_2 x5_1).f1⟩ : S116)) (k116_mkM _ _ _ (⟨(⟨IntKind.i8.wrap (x1_2), (rd_T116 x0_2 x5_1).f0.f1⟩ : S74), (rd_T116 x0_2 x5_1).f1⟩ : S116) ) (fun _ hk => hk)
  have hx11_0 := hcc11 0 _ rfl
  (try simp only [show (k116).sz = 3 from rfl, Nat.mul_one, Nat.add_zero] at hx11_0)
  have hf11_0 := hfr11 0
  (try simp only [show (k116).sz = 3 from rfl, Nat.mul_one, Nat.add_zero] at hf11_0)
  clear hcl11 hcc11 hfr11 hM11
  go_wp2_with (first | ((with_reducible refine gate_store (t := 22) (p := 24) rfl ?_); refine store_event (t := 22) (p := 24) (v := ?vo_w12) (w1 := (wr.setCell ⟨go8, (x5_1 : Int).toNat * 3, none⟩ (.int .i8 (IntKind.i8.wrap (x1_2))))) ?hg ?ho ?hn ?hr ?_; (case ho => rfl); (case hg => rfl); (case hn => rfl); (case hr => exact zgs); intro w12 hw; have hg : wr.grownBy w12 (some go8) := (by rw [hw]; exact HP11.2); have hp_ : Kd.R k116 116 w12 w0.heap.size (fun k_ => (P0_ k_ ∨ w.heap.size ≤ k_)) (.slice (some ⟨go8, 0, none⟩) x0_2.length co4) y198 := (by rw [hw, Ny198.out]; exact HP11.1); clear HP11; have n_ : _ ∧ _ ∧ _ := ⟨Aside0.mk (hp_), Aside0.mk ((by rw [hw]; exact below_set (HB.out) GB8.out : Below w0.heap.size w0 w12)), Aside0.mk (Kept.of_grown (S := (fun k_ => P0_ k_)) hg (by repeat (first | (with_reducible first | exact HK.out | apply Kept.alloc | apply Kept.drewN | apply Kept.drew) | exact HK.out)) (fun k_ e_ => (HO_0.out.1 k_ e_)))⟩; clear HO_0 HB HK; obtain ⟨HO_0, HB, HK⟩ := n_; clear hg hw hp_))
  (try simp only [← hl0_2])
  go_roundg k2
  case measure => have := HK1.out; have := HK2.out; omega
  case rel => exact ⟨(y198), (wrap64 (x1_2 + 1)), (wrap64 (x6_2 + 1)), zi, zi, H', ⟨by have := HK1.out; have := HK2.out; omega⟩, ⟨by (try simp only [hl0_2]); (with_reducible repeat (first | apply Kd.R_alloc | apply Kd.R_drewN | apply Kd.R_drew)); exact HO_0.out⟩, ⟨by repeat (first | (with_reducible first | exact HK.out | apply Kept.alloc | apply Kept.drewN | apply Kept.drew) | exact HK.out)⟩, zl HB⟩
 rw [if_neg c9] at H
 clear c9
 by_cases c13 : x6_2 = 1
 rotate_left
 ·rw [if_neg c13] at H
  exact absurd H (by simp)
 rw [if_pos c13] at H
 have Ac13 : Aside0 (x6_2 = 1) := ⟨c13⟩
 clear c13
 have ar14e : x6_2 = 1 := by first | exact (show Aside0 (x6_2 = 1) by assumption).out | exact beq_iff_eq.mp (by assumption) | omega
 have ar14n : (x6_2).toNat = 1 := by rw [ar14e]; rfl
 have ar14l : decide (0 ≤ x6_2) = true := decide_eq_true (by omega)
 have ar14L := eq_true (of_decide_eq_true ar14l)
 have ar14h : decide (x6_2 < 2) = true := decide_eq_true (by omega)
 have ar14H := eq_true (of_decide_eq_true ar14h)
 clear ar14e
 obtain ⟨y199, hy199⟩ : ∃ y_ : List (S116), y_ = (x0_2.set (x5_1 : Int).toNat (⟨(⟨(rd_T116 x0_2 x5_1).f0.f0, IntKind.i8.wrap (x1_2)⟩ : S74), (rd_T116 x0_2 x5_1).f1⟩ : S116)) := ⟨_, rfl⟩
 replace H : (laws_markPortS.l1 k2 y199 (wrap64 (x1_2 + 1)) x5_1 (wrap64 (x6_2 + 1))) = some (r1, r2) := by first | (rw [hy199]; with_reducible exact H) | (have H2_ := (Option.bind_some _ _).symm.trans H; rw [hy199]; with_reducible exact H2_) | (have H2_ := (Option.bind_some _ _).symm.trans H; with_reducible exact H2_) | with_reducible exact H | (rw [hy199]; exact H) | exact H
 have Ny199 := Aside0.mk hy199
 clear hy199
 have H' := Aside0.mk H
 clear H
 have p8 : 0 ≤ (x5_1 : Int) := of_decide_eq_true zA
 have q8 : (x5_1 : Int) < ((x0_2.length : Int) : Int) := of_decide_eq_true zA
 obtain ⟨go8, co8, eo8, gb8, gl8, cl8, HG8⟩ := Kd.R_form HO_0.out (by omega)
 (first | cases eo8 | (injection eo8 with ea_ en_ ec_; (first | subst ea_ | (injection ea_ with ea_; subst ea_)); subst ec_; clear en_))
 have GB8 := Aside0.mk gb8
 have GG8 := Aside0.mk HG8
 clear gb8 gl8 HG8
 have HMgo8 := Aside0.mk (show (P0_ go8 ∨ w.heap.size ≤ go8) from (HO_0.out.1 _ rfl))
 obtain ⟨ce8, hcl8, hM8, hcc8, hfr8⟩ := Kd.R_elem HO_0.out z116 (x5_1 : Int) p8 q8
 obtain rfl := k116_openM hM8
 have hx8_0 : wr.cell? ⟨go8, (x5_1 : Int).toNat * 3, none⟩ = some (.int .i8 ((rd_T116 x0_2 x5_1).f0.f0)) := hcc8 0 _ rfl
 have hx8_1 : wr.cell? ⟨go8, (x5_1 : Int).toNat * 3 + 1, none⟩ = some (.int .i8 ((rd_T116 x0_2 x5_1).f0.f1)) := hcc8 1 _ rfl
 have hx8_2 : wr.cell? ⟨go8, (x5_1 : Int).toNat * 3 + 2, none⟩ = some (.int .i8 ((rd_T116 x0_2 x5_1).f1)) := hcc8 2 _ rfl
 have hf8_0 : wr.frozen? ⟨go8, (x5_1 : Int).toNat * 3, none⟩ = false := hfr8 0
 have hf8_1 : wr.frozen? ⟨go8, (x5_1 : Int).toNat * 3 + 1, none⟩ = false := hfr8 1
 have hf8_2 : wr.frozen? ⟨go8, (x5_1 : Int).toNat * 3 + 2, none⟩ = false := hfr8 2
 clear hcl8 hcc8 hfr8 hM8
 replace p8 := eq_true p8
 replace q8 := eq_true q8
 have HX15 := Aside0.mk (show Kd.R k116 116 wr w0.heap.size (fun k_ => (P0_ k_ ∨ w.heap.size ≤ k_)) (.slice (some ⟨go8, 0, none⟩) x0_2.length co4) x0_2 from (ze HO_0).out)
 obtain ⟨ce15, hcl15, hM15, hcc15, hfr15⟩ := Kd.R_elem HX15.out z116 (x5_1 : Int) (of_decide_eq_true zA) (zlt (x5_1 : Int) (x0_2.length : Int) (Kd.R_reads' HO_0.out).1)
 obtain rfl := k116_openM hM15
 have HP15 := Kd.R_seg HX15.out (x5_1 : Int) (of_decide_eq_true zA) (zlt (x5_1 : Int) (x0_2.length : Int) (Kd.R_reads' HO_0.out).1) (seg := [.int .i8 (IntKind.i8.wrap (x1_2))]) (j := 1) hcl15 hcc15 (show 2 ≤ 3 from by decide) (x' := (⟨(⟨(rd_T116 x0_2 x5_1).f0.f0, IntKind.i8.wrap (x1_2)⟩ : S74), (rd_T116 x0_2 x5_1).f1⟩ : S116)) (k116_mkM _ _ _ (⟨(⟨(rd_T116 x0_2 x5_1).f0.f0, IntKind.i8.wrap (x1_2)⟩ : S74), (rd_T116 x0_2 x5_1).f1⟩ : S116) ) (fun _ hk => hk)
 have hx15_1 := hcc15 1 _ rfl
 (try simp only [show (k116).sz = 3 from rfl, Nat.mul_one, Nat.add_zero] at hx15_1)
 have hf15_1 := hfr15 1
 (try simp only [show (k116).sz = 3 from rfl, Nat.mul_one, Nat.add_zero] at hf15_1)
 clear hcl15 hcc15 hfr15 hM15
 go_wp2_with (first | ((with_reducible refine gate_store (t := 22) (p := 24) rfl ?_); refine store_event (t := 22) (p := 24) (v := ?vo_w16) (w1 := (wr.setCell ⟨go8, (x5_1 : Int).toNat * 3 + 1, none⟩ (.int .i8 (IntKind.i8.wrap (x1_2))))) ?hg ?ho ?hn ?hr ?_; (case ho => rfl); (case hg => rfl); (case hn => rfl); (case hr => exact zgs); intro w16 hw; have hg : wr.grownBy w16 (some go8) := (by rw [hw]; exact HP15.2); have hp_ : Kd.R k116 116 w16 w0.heap.size (fun k_ => (P0_ k_ ∨ w.heap.size ≤ k_)) (.slice (some ⟨go8, 0, none⟩) x0_2.length co4) y199 := (by rw [hw, Ny199.out]; exact HP15.1); clear HP15; have n_ : _ ∧ _ ∧ _ := ⟨Aside0.mk (hp_), Aside0.mk ((by rw [hw]; exact below_set (HB.out) GB8.out : Below w0.heap.size w0 w16)), Aside0.mk (Kept.of_grown (S := (fun k_ => P0_ k_)) hg (by repeat (first | (with_reducible first | exact HK.out | apply Kept.alloc | apply Kept.drewN | apply Kept.drew) | exact HK.out)) (fun k_ e_ => (HO_0.out.1 k_ e_)))⟩; clear HO_0 HB HK; obtain ⟨HO_0, HB, HK⟩ := n_; clear hg hw hp_))
 (try simp only [← hl0_2])
 go_roundg k2
 case measure => have := HK1.out; have := HK2.out; omega
 case rel => exact ⟨(y199), (wrap64 (x1_2 + 1)), (wrap64 (x6_2 + 1)), zi, zi, H', ⟨by have := HK1.out; have := HK2.out; omega⟩, ⟨by (try simp only [hl0_2]); (with_reducible repeat (first | apply Kd.R_alloc | apply Kd.R_drewN | apply Kd.R_drew)); exact HO_0.out⟩, ⟨by repeat (first | (with_reducible first | exact HK.out | apply Kept.alloc | apply Kept.drewN | apply Kept.drew) | exact HK.out)⟩, zl HB⟩
end Go.Proofs.Ytffnfpnajkgnaaa.PFnExactMoveMachine
