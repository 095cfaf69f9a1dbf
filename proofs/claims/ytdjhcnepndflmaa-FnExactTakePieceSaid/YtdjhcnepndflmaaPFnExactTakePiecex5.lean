-- WRITTEN by xprint.py, a program of this session's. Not trusted: Lean checks it.
-- packed by pack.py
import Derived.Test.YtdjhcnepndflmaaPFnExactTakePiecex0
import Derived.Test.YtdjhcnepndflmaaPFnExactTakePiecex1
import Derived.Test.YtdjhcnepndflmaaPFnExactTakePiecex4
import Derived.Test.YtdjhcnepndflmaaTFnExactTakePiecea
namespace Go.Proofs.Ytdjhcnepndflmaa.PFnExactTakePiece
open Go.RowKit Go.Proofs.YtdjhcnepndflmaaW.PrintWords Go.Proofs.YtdjhcnepndflmaaW.PrintLast Go.Proofs.YtdjhcnepndflmaaW.PrintMore Go.Proofs.YtdjhcnepndflmaaX
attribute [local go_sem] max2_int min2_int max_two min_two max_three min_three max_four min_four   -- for this text's walks alone
set_option maxHeartbeats 8000000
set_option maxRecDepth 100000
set_option linter.unusedVariables false
set_option linter.unusedSimpArgs false

attribute [local go_sem high] eqA34
def laws_toPieceS.l0 : Nat → List (S78) → List (S62) → Int → Option ((List (S62)))
  | 0, _, _, _ => none
  | k + 1, x0, x3, x4 => if x4 < (x0.length : Int) then (if 0 ≤ x4 then ((laws_toPiece.f k ((rd_T78 x0 x4).f0.f0) ((rd_T78 x0 x4).f0.f1) ((rd_T78 x0 x4).f1) ((rd_T78 x0 x4).f2) ((rd_T78 x0 x4).f3)).bind fun bt155 => (if x4 < (x3.length : Int) then (laws_toPieceS.l0 k x0 (x3.set (x4 : Int).toNat (⟨(⟨bt155.1, bt155.2.1⟩ : S34), bt155.2.2.1, bt155.2.2.2.1, bt155.2.2.2.2⟩ : S62)) (wrap64 (x4 + 1))) else (none))) else (none)) else (some x3)
def laws_toPieceS.f (k : Nat) (l0 : List (S78)) : Option ((List (S62))) := if 0 ≤ (l0.length : Int) then (if ((l0.length : Int) : Int).toNat ≤ 56294995342131 then (laws_toPieceS.l0 k l0 (List.replicate ((l0.length : Int) : Int).toNat z62) 0) else (none)) else (none)
theorem laws_toPieceS.mono_l : ∀ k, (∀ y0 y1 y2, LeO (laws_toPieceS.l0 k y0 y1 y2) (laws_toPieceS.l0 (k + 1) y0 y1 y2))
  | 0 => fun _ _ _ r h => by simp [laws_toPieceS.l0] at h
  | k + 1 => by
    have ih0 := laws_toPieceS.mono_l k
    · intro y0 y1 y2
      unfold laws_toPieceS.l0
      repeat' first | (with_reducible first | apply ih0 | apply laws_toPiece.mono | exact LeO.refl _ | exact LeO.none _ | refine LeO.ite ?_ ?_ | refine LeO.bind ?_ (fun _ => ?_)) | apply ih0 | apply laws_toPiece.mono | exact LeO.none _ | refine LeO.ite ?_ ?_ | refine LeO.bind ?_ (fun _ => ?_)
theorem laws_toPieceS.mono : ∀ a0 k, LeO (laws_toPieceS.f k a0) (laws_toPieceS.f (k + 1) a0) := by
 intro a0 k
 have ih0 := laws_toPieceS.mono_l k
 unfold laws_toPieceS.f
 repeat' first | (with_reducible first | apply ih0 | apply laws_toPiece.mono | exact LeO.refl _ | exact LeO.none _ | refine LeO.ite ?_ ?_ | refine LeO.bind ?_ (fun _ => ?_)) | apply ih0 | apply laws_toPiece.mono | exact LeO.none _ | refine LeO.ite ?_ ?_ | refine LeO.bind ?_ (fun _ => ?_)
theorem laws_toPieceS.calls (k : Nat) (A0 : Option Addr) (c0 : Nat) (l0 : List (S78)) (r : List (S62)) (w : World) (hr0 : Kd.C k78 w A0 l0.length l0) (hc0 : l0.length ≤ c0) (h : laws_toPieceS.f k l0 = some r) :
    Calls Try.prog 28 #[.slice A0 l0.length c0] w fun e w' => ∃ v0_ : Value, e = .returned (v0_) ∧ Kd.R k62 62 w' w.heap.size (fun _ => True) v0_ r ∧ Below w.heap.size w w' := by
 have hu78 := Try.underlying78
 have hu62 := Try.underlying62
 have HR0 := Aside0.mk hr0
 have HC0 := Aside0.mk hc0
 clear hr0 hc0
 have HB := Aside0.mk (Below.refl w.heap.size w)
 have H : (if 0 ≤ (l0.length : Int) then (if ((l0.length : Int) : Int).toNat ≤ 56294995342131 then (laws_toPieceS.l0 k l0 (List.replicate ((l0.length : Int) : Int).toNat z62) 0) else (none)) else (none)) = some r := h
 clear h
 by_cases c2 : 0 ≤ (l0.length : Int)
 rotate_left
 ·rw [if_neg c2] at H
  exact absurd H (by simp)
 rw [if_pos c2] at H
 have c2b0 := eq_true c2
 have c2b1 : decide (0 ≤ (l0.length : Int)) = true := decide_eq_true c2
 clear c2
 by_cases c3 : ((l0.length : Int) : Int).toNat ≤ 56294995342131
 rotate_left
 ·rw [if_neg c3] at H
  exact absurd H (by simp)
 rw [if_pos c3] at H
 have c3b0 := eq_true c3
 have c3b1 : decide (((l0.length : Int) : Int).toNat ≤ 56294995342131) = true := decide_eq_true c3
 clear c3
 obtain ⟨y151, hy151⟩ : ∃ y_ : List (S62), y_ = (List.replicate ((l0.length : Int) : Int).toNat z62) := ⟨_, rfl⟩
 replace H : (laws_toPieceS.l0 k l0 y151 0) = some r := by first | (rw [hy151]; with_reducible exact H) | (have H2_ := (Option.bind_some _ _).symm.trans H; rw [hy151]; with_reducible exact H2_) | (have H2_ := (Option.bind_some _ _).symm.trans H; with_reducible exact H2_) | with_reducible exact H | (rw [hy151]; exact H) | exact H
 have Ny151 := Aside0.mk hy151
 clear hy151
 have H' := Aside0.mk H
 clear H
 go_enter Try.func28, Try.ntmps28
 go_wp2_with (first | ((with_reducible refine gate_dst (N := 7) rfl ?_); refine Kd.R_make k62 _ 62 rfl (N := 7) rfl 28 _ _ rfl (l0.length : Int) rfl rfl Try.underlying28 (.agg #[(.int .i8 0), (.int .i8 0), (.int .i8 0), (.int .i8 0), (.int .i8 0)]) 5 info62 rfl (by decide) (by omega) z62 (ok := fun _ => True) (okp := fun _ => True) (k62_mkM _ _ _ z62 ) (fun _ hk => hk) trivial (of_decide_eq_true zA) (Nat.le_trans (Nat.mul_le_mul_right _ (of_decide_eq_true zA : (l0.length : Int).toNat ≤ 56294995342131)) (by omega)) (Below.refl _ _) (Nat.le_refl _) ?_; intro v152 w4 ho5 hb hg_ hnew_; clear hg_ hnew_; (first | rw [← Ny151.out] at ho5 | (simp only [Int.reduceToNat] at ho5; rw [← Ny151.out] at ho5)); have n_ : _ ∧ _ := ⟨Aside0.mk (Kd.R_lower ho5 (zz HB)), zb HB hb⟩; clear HB; obtain ⟨HO153, HB⟩ := n_; clear hb ho5))
 go_loopg [4] k (fun kq v4 w' => ∃ (x3_1 : List (S62)) (x4_1 : Int), v4 = .int .i64 x4_1 ∧ Aside0 (laws_toPieceS.l0 kq l0 x3_1 x4_1 = some r) ∧ Aside0 (kq ≤ k) ∧ Aside0 (Kd.R k62 62 w' w.heap.size (fun _ => True) v152 x3_1) ∧ Aside0 (Below w.heap.size w w'))
 case atStart => exact ⟨(y151), (0), zi, H', ⟨Nat.le_refl _⟩, ze HO153, zl HB⟩
 clear H'
 try clear c2
 try clear c2b0
 try clear c2b1
 try clear p2
 try clear c3
 try clear c3b0
 try clear c3b1
 obtain ⟨x3_1, x4_1, rfl, HA, HK1, HO_3, HB⟩ := hrel
 cases gk with
 | zero => exact absurd HA.out (by simp [laws_toPieceS.l0])
 | succ k1 => ?_
 have H := HA.out
 clear HA
 simp only [laws_toPieceS.l0] at H
 by_cases c6 : x4_1 < (l0.length : Int)
 rotate_left
 ·rw [if_neg c6] at H
  have c6b0 : decide (x4_1 < (l0.length : Int)) = false := decide_eq_false c6
  clear c6
  obtain rfl := Option.some.inj H
  go_wp2
  go_ret
  exact ⟨_, zv, by (with_reducible repeat (first | apply Kd.R_alloc | apply Kd.R_drewN | apply Kd.R_drew)); exact HO_3.out, zbo⟩
 rw [if_pos c6] at H
 have c6b0 : decide (x4_1 < (l0.length : Int)) = true := decide_eq_true c6
 clear c6
 by_cases c7 : 0 ≤ x4_1
 rotate_left
 ·rw [if_neg c7] at H
  exact absurd H (by simp)
 rw [if_pos c7] at H
 have c7b0 : decide (0 ≤ x4_1) = true := decide_eq_true c7
 clear c7
 replace H := zob H
 obtain ⟨⟨t155, t156, t157, t158, t159⟩, A80, H⟩ := H
 replace H : (if x4_1 < (x3_1.length : Int) then (laws_toPieceS.l0 k1 l0 (x3_1.set (x4_1 : Int).toNat (⟨(⟨t155, t156⟩ : S34), t157, t158, t159⟩ : S62)) (wrap64 (x4_1 + 1))) else (none)) = some r := H
 have A8 := Aside0.mk A80
 clear A80
 by_cases c9 : x4_1 < (x3_1.length : Int)
 rotate_left
 ·rw [if_neg c9] at H
  exact absurd H (by simp)
 rw [if_pos c9] at H
 have c9b0 : decide (x4_1 < (x3_1.length : Int)) = true := decide_eq_true c9
 clear c9
 obtain ⟨y160, hy160⟩ : ∃ y_ : List (S62), y_ = (x3_1.set (x4_1 : Int).toNat (⟨(⟨t155, t156⟩ : S34), t157, t158, t159⟩ : S62)) := ⟨_, rfl⟩
 replace H : (laws_toPieceS.l0 k1 l0 y160 (wrap64 (x4_1 + 1))) = some r := by first | (rw [hy160]; with_reducible exact H) | (have H2_ := (Option.bind_some _ _).symm.trans H; rw [hy160]; with_reducible exact H2_) | (have H2_ := (Option.bind_some _ _).symm.trans H; with_reducible exact H2_) | with_reducible exact H | (rw [hy160]; exact H) | exact H
 have Ny160 := Aside0.mk hy160
 clear hy160
 have H' := Aside0.mk H
 clear H
 have p154 : 0 ≤ (x4_1 : Int) := of_decide_eq_true zA
 have q154 : x4_1 < (l0.length : Int) := of_decide_eq_true zA
 obtain ⟨ad154, e154, hx154_0, hx154_1, hx154_2, hx154_3, hx154_4⟩ := at_T78 HR0.out x4_1 p154 q154
 cases e154
 replace hx154_0 := zc HB hx154_0
 replace hx154_1 := zc HB hx154_1
 replace hx154_2 := zc HB hx154_2
 replace hx154_3 := zc HB hx154_3
 replace hx154_4 := zc HB hx154_4
 replace p154 := eq_true p154
 replace q154 := eq_true q154
 go_wp2_with (first | ((with_reducible refine gate_callee (f := 46) rfl ?_); refine goesL_ (some 20) rfl rfl Try.func46 (by kernel_rfl) rfl #[.agg #[.int .i8 ((rd_T78 l0 x4_1).f0.f0), .int .i8 ((rd_T78 l0 x4_1).f0.f1), .int .i8 ((rd_T78 l0 x4_1).f1), .int .i8 ((rd_T78 l0 x4_1).f2), .int .i8 ((rd_T78 l0 x4_1).f3)]] rfl zm ?_; (with_reducible refine (laws_toPiece.calls k1 ((rd_T78 l0 x4_1).f0.f0) ((rd_T78 l0 x4_1).f0.f1) ((rd_T78 l0 x4_1).f1) ((rd_T78 l0 x4_1).f2) ((rd_T78 l0 x4_1).f3) t155 t156 t157 t158 t159 _ A8.out).mono ?_); rintro e w11 ⟨rfl, hb⟩; refine ⟨_, rfl, ?_⟩; have n_ : _ ∧ _ := ⟨zr HO_3 hb, zb HB hb⟩; clear HO_3 HB; obtain ⟨HO_3, HB⟩ := n_; (try clear hb); (try clear hb2); (try clear hk); (try clear hi); have p10 : 0 ≤ (x4_1 : Int) := of_decide_eq_true zA; have q10 : (x4_1 : Int) < ((x3_1.length : Int) : Int) := of_decide_eq_true zA; obtain ⟨go10, co10, eo10, gb10, gl10, cl10, HG10⟩ := Kd.R_form HO_3.out (by omega); (first | cases eo10 | (injection eo10 with ea_ en_ ec_; (first | subst ea_ | (injection ea_ with ea_; subst ea_)); subst ec_; clear en_)); have GB10 := Aside0.mk gb10; have GG10 := Aside0.mk HG10; clear gb10 gl10 HG10; obtain ⟨ce10, hcl10, hM10, hcc10, hfr10⟩ := Kd.R_elem HO_3.out z62 (x4_1 : Int) p10 q10; obtain rfl := k62_openM hM10; have hx10_0 : w11.cell? ⟨go10, (x4_1 : Int).toNat * 5, none⟩ = some (.int .i8 ((rd_T62 x3_1 x4_1).f0.f0)) := hcc10 0 _ rfl; have hx10_1 : w11.cell? ⟨go10, (x4_1 : Int).toNat * 5 + 1, none⟩ = some (.int .i8 ((rd_T62 x3_1 x4_1).f0.f1)) := hcc10 1 _ rfl; have hx10_2 : w11.cell? ⟨go10, (x4_1 : Int).toNat * 5 + 2, none⟩ = some (.int .i8 ((rd_T62 x3_1 x4_1).f1)) := hcc10 2 _ rfl; have hx10_3 : w11.cell? ⟨go10, (x4_1 : Int).toNat * 5 + 3, none⟩ = some (.int .i8 ((rd_T62 x3_1 x4_1).f2)) := hcc10 3 _ rfl; have hx10_4 : w11.cell? ⟨go10, (x4_1 : Int).toNat * 5 + 4, none⟩ = some (.int .i8 ((rd_T62 x3_1 x4_1).f3)) := hcc10 4 _ rfl; have hf10_0 : w11.frozen? ⟨go10, (x4_1 : Int).toNat * 5, none⟩ = false := hfr10 0; have hf10_1 : w11.frozen? ⟨go10, (x4_1 : Int).toNat * 5 + 1, none⟩ = false := hfr10 1; have hf10_2 : w11.frozen? ⟨go10, (x4_1 : Int).toNat * 5 + 2, none⟩ = false := hfr10 2; have hf10_3 : w11.frozen? ⟨go10, (x4_1 : Int).toNat * 5 + 3, none⟩ = false := hfr10 3; have hf10_4 : w11.frozen? ⟨go10, (x4_1 : Int).toNat * 5 + 4, none⟩ = false := hfr10 4; clear hcl10 hcc10 hfr10 hM10; replace p10 := eq_true p10; replace q10 := eq_true q10; have HX12 := Aside0.mk (show Kd.R k62 62 w11 w.heap.size (fun _ => True) (.slice (some ⟨go10, 0, none⟩) x3_1.length co10) x3_1 from (ze HO_3).out); obtain ⟨ce12, hcl12, hM12, hcc12, hfr12⟩ := Kd.R_elem HX12.out z62 (x4_1 : Int) (of_decide_eq_true zA) (zlt (x4_1 : Int) (x3_1.length : Int) (Kd.R_reads' HO_3.out).1); obtain rfl := k62_openM hM12; have HP12 := Kd.R_seg HX12.out (x4_1 : Int) (of_decide_eq_true zA) (zlt (x4_1 : Int) (x3_1.length : Int) (Kd.R_reads' HO_3.out).1) (seg := [.int .i8 t155, .int .i8 t156, .int .i8 t157, .int .i8 t158, .int .i8 t159]) (j := 0) hcl12 hcc12 (show 5 ≤ 5 from by decide) (x' := (⟨(⟨t155, t156⟩ : S34), t157, t158, t159⟩ : S62)) (k62_mkM _ _ _ (⟨(⟨t155, t156⟩ : S34), t157, t158, t159⟩ : S62) ) (fun _ hk => hk); have hx12_0 := hcc12 0 _ rfl; (try simp only [show (k62).sz = 5 from rfl, Nat.mul_one, Nat.add_zero] at hx12_0); have hf12_0 := hfr12 0; (try simp only [show (k62).sz = 5 from rfl, Nat.mul_one, Nat.add_zero] at hf12_0); have hx12_1 := hcc12 1 _ rfl; (try simp only [show (k62).sz = 5 from rfl, Nat.mul_one, Nat.add_zero] at hx12_1); have hf12_1 := hfr12 1; (try simp only [show (k62).sz = 5 from rfl, Nat.mul_one, Nat.add_zero] at hf12_1); have hx12_2 := hcc12 2 _ rfl; (try simp only [show (k62).sz = 5 from rfl, Nat.mul_one, Nat.add_zero] at hx12_2); have hf12_2 := hfr12 2; (try simp only [show (k62).sz = 5 from rfl, Nat.mul_one, Nat.add_zero] at hf12_2); have hx12_3 := hcc12 3 _ rfl; (try simp only [show (k62).sz = 5 from rfl, Nat.mul_one, Nat.add_zero] at hx12_3); have hf12_3 := hfr12 3; (try simp only [show (k62).sz = 5 from rfl, Nat.mul_one, Nat.add_zero] at hf12_3); have hx12_4 := hcc12 4 _ rfl; (try simp only [show (k62).sz = 5 from rfl, Nat.mul_one, Nat.add_zero] at hx12_4); have hf12_4 := hfr12 4; (try simp only [show (k62).sz = 5 from rfl, Nat.mul_one, Nat.add_zero] at hf12_4); clear hcl12 hcc12 hfr12 hM12) | ((with_reducible refine gate_store (t := 62) (p := 21) rfl ?_); refine store_event (t := 62) (p := 21) (v := ?vo_w13) (w1 := (((((w11.setCell ⟨go10, (x4_1 : Int).toNat * 5, none⟩ (.int .i8 t155)).setCell ⟨go10, (x4_1 : Int).toNat * 5 + 1, none⟩ (.int .i8 t156)).setCell ⟨go10, (x4_1 : Int).toNat * 5 + 2, none⟩ (.int .i8 t157)).setCell ⟨go10, (x4_1 : Int).toNat * 5 + 3, none⟩ (.int .i8 t158)).setCell ⟨go10, (x4_1 : Int).toNat * 5 + 4, none⟩ (.int .i8 t159))) ?hg ?ho ?hn ?hr ?_; (case ho => rfl); (case hg => rfl); (case hn => rfl); (case hr => exact zgs); intro w13 hw; have hg : w11.grownBy w13 (some go10) := (by rw [hw]; exact HP12.2); have hp_ : Kd.R k62 62 w13 w.heap.size (fun _ => True) (.slice (some ⟨go10, 0, none⟩) x3_1.length co10) y160 := (by rw [hw, Ny160.out]; exact HP12.1); clear HP12; have n_ : _ ∧ _ := ⟨Aside0.mk (hp_), Aside0.mk ((by rw [hw]; exact below_set (below_set (below_set (below_set (below_set (HB.out) GB10.out) GB10.out) GB10.out) GB10.out) GB10.out : Below w.heap.size w w13))⟩; clear HO_3 HB; obtain ⟨HO_3, HB⟩ := n_; clear hg hw hp_))
 go_roundg k1
 case measure => have := HK1.out; omega
 case rel => exact ⟨(y160), (wrap64 (x4_1 + 1)), zi, H', ⟨by have := HK1.out; omega⟩, ze HO_3, zl HB⟩
def laws_toBoard.f (k : Nat) (a0_0 : Int) (a0_1 : Int) (l0_2 : List (S78)) : Option (Int × Int × (List (S62))) := (laws_toPieceS.f k l0_2).bind fun t164 => (some (a0_0, a0_1, t164))
theorem laws_toBoard.mono : ∀ a0 a1 a2 k, LeO (laws_toBoard.f k a0 a1 a2) (laws_toBoard.f (k + 1) a0 a1 a2) := by
 intro a0 a1 a2 k
 unfold laws_toBoard.f
 repeat' first | (with_reducible first | apply laws_toPieceS.mono | exact LeO.refl _ | exact LeO.none _ | refine LeO.ite ?_ ?_ | refine LeO.bind ?_ (fun _ => ?_)) | apply laws_toPieceS.mono | exact LeO.none _ | refine LeO.ite ?_ ?_ | refine LeO.bind ?_ (fun _ => ?_)
theorem laws_toBoard.calls (k : Nat) (a0_0 : Int) (a0_1 : Int) (A0_2 : Option Addr) (c0_2 : Nat) (l0_2 : List (S78)) (r1 : Int) (r2 : Int) (r3 : List (S62)) (w : World) (hr0_2 : Kd.C k78 w A0_2 l0_2.length l0_2) (hc0_2 : l0_2.length ≤ c0_2) (h : laws_toBoard.f k a0_0 a0_1 l0_2 = some (r1, r2, r3)) :
    Calls Try.prog 8 #[.agg #[.int .i8 a0_0, .int .i8 a0_1, .slice A0_2 l0_2.length c0_2]] w fun e w' => ∃ v2_ : Value, e = .returned (.agg #[.int .i8 r1, .int .i8 r2, v2_]) ∧ Kd.R k62 62 w' w.heap.size (fun _ => True) v2_ r3 ∧ Below w.heap.size w w' := by
 have hu25 := Try.underlying25
 have hu30 := Try.underlying30
 have HR0_2 := Aside0.mk hr0_2
 have HC0_2 := Aside0.mk hc0_2
 clear hr0_2 hc0_2
 have HB := Aside0.mk (Below.refl w.heap.size w)
 have H : ((laws_toPieceS.f k l0_2).bind fun t164 => (some (a0_0, a0_1, t164))) = some (r1, r2, r3) := h
 clear h
 replace H := zob H
 obtain ⟨t164, A20, H⟩ := H
 replace H : (some (a0_0, a0_1, t164)) = some (r1, r2, r3) := H
 have A2 := Aside0.mk A20
 clear A20
 simp only [Option.some.injEq, Prod.mk.injEq] at H
 obtain ⟨rfl, rfl, rfl⟩ := H
 go_enter Try.func8, Try.ntmps8
 go_wp2_with (first | ((with_reducible refine gate_dst (N := 1) rfl ?_); refine zbx 1 #[.int .i8 a0_0, .int .i8 a0_1, .slice A0_2 l0_2.length c0_2] 25 ?_; intro gb161 hg w3 hbox hb; have n_ : _ ∧ _ ∧ _ ∧ _ := ⟨zb HB hb, Aside0.mk (hbox), zg HB hg, zg HB hg⟩; clear HB; obtain ⟨HB, BK161, GW161, GE161⟩ := n_; clear hb hbox hg) | ((with_reducible refine gate_dst (N := 2) rfl ?_); refine zbx 2 #[.int .i8 0, .int .i8 0, .slice none 0 0] 30 ?_; intro gb162 hg w4 hbox hb; have n_ : _ ∧ _ ∧ _ ∧ _ ∧ _ ∧ _ ∧ _ := ⟨zk BK161 hb, zbs hb, Aside0.mk (hbox), zg HB hg, zg HB hg, zn1 BK161 hg, zn2 BK161 hg⟩; clear BK161 HB; obtain ⟨BK161, HB, BK162, GW162, GE162, NB161_162, NB162_161⟩ := n_; clear hb hbox hg) | ((with_reducible refine gate_dst (N := 3) rfl ?_); refine zbx 3 #[.int .i8 0, .int .i8 0, .slice none 0 0] 30 ?_; intro gb163 hg w5 hbox hb; have n_ : _ ∧ _ ∧ _ ∧ _ ∧ _ ∧ _ ∧ _ ∧ _ ∧ _ ∧ _ := ⟨zk BK161 hb, zk BK162 hb, zbs hb, Aside0.mk (hbox), zg HB hg, zg HB hg, zn1 BK161 hg, zn2 BK161 hg, zn1 BK162 hg, zn2 BK162 hg⟩; clear BK161 BK162 HB; obtain ⟨BK161, BK162, HB, BK163, GW163, GE163, NB161_163, NB163_161, NB162_163, NB163_162⟩ := n_; clear hb hbox hg; have hnb6 := NB161_162.out; have hnc6 := NB162_161.out; have hnb7 := NB161_163.out; have hnc7 := NB163_161.out; obtain ⟨z8_0, z8_1, z8_2, y8_0, y8_1, y8_2⟩ := zB3 BK161; have hnb9 := NB163_162.out; have hnc9 := NB162_163.out; obtain ⟨z10_0, z10_1, z10_2, y10_0, y10_1, y10_2⟩ := zB3 BK163) | ((with_reducible refine gate_callee (f := 28) rfl ?_); refine goesL_ (some 12) rfl rfl Try.func28 (by kernel_rfl) rfl #[.slice A0_2 l0_2.length c0_2] rfl zm ?_; (with_reducible refine (laws_toPieceS.calls k _ _ l0_2 t164 _ ?side1 ?side2 A2.out).mono ?_); (case side1 => exact Kd.C_below HR0_2.out zbo); (case side2 => exact HC0_2.out); rintro e w11 ⟨v165, rfl, ho0, hb⟩; refine ⟨_, rfl, ?_⟩; have n_ : _ ∧ _ ∧ _ ∧ _ ∧ _ := ⟨Aside0.mk (Kd.R_lower ho0 (zz HB)), zfb BK161 NB161_163 hb, zfb BK162 NB162_163 hb, Aside0.mk (blk_below (g := gb163) (o := .cells #[.int .i8 a0_0, .int .i8 a0_1, .slice none 0 0] 30 (0, 0)) (zp BK163) hb), zbs hb⟩; clear BK161 BK162 BK163 HB; obtain ⟨HO166, BK161, BK162, BK163, HB⟩ := n_; (try clear hb); (try clear hb2); (try clear hk); (try clear hi); (try clear ho0); obtain ⟨Ao12, co12, eo12⟩ := Kd.R_slice HO166.out; subst eo12; obtain ⟨z13_0, z13_1, z13_2, y13_0, y13_1, y13_2⟩ := zB3 BK163; obtain ⟨z14_0, z14_1, z14_2, y14_0, y14_1, y14_2⟩ := zB3 BK162))
 refine bodyPost_ret (results_cell_row rfl _ _ gb162 30 #[.int .i8 a0_0, .int .i8 a0_1, .slice Ao12 t164.length co12] (0, 0) _ rfl (by (with_reducible repeat (first | refine blk_drewN ?_ _ | refine blk_drew ?_ | refine blk_alloc ?_ _)); refine blk_put (cs := #[.int .i8 a0_0, .int .i8 a0_1, .slice none 0 0]) ?_ 2 _ rfl; (with_reducible repeat (first | refine blk_drewN ?_ _ | refine blk_drew ?_ | refine blk_alloc ?_ _)); refine blk_put (cs := #[.int .i8 a0_0, .int .i8 0, .slice none 0 0]) ?_ 1 _ rfl; (with_reducible repeat (first | refine blk_drewN ?_ _ | refine blk_drew ?_ | refine blk_alloc ?_ _)); refine blk_put (cs := #[.int .i8 0, .int .i8 0, .slice none 0 0]) ?_ 0 _ rfl; (with_reducible repeat (first | refine blk_drewN ?_ _ | refine blk_drew ?_ | refine blk_alloc ?_ _)); refine blk_far ?_ NB162_163.out _; (with_reducible repeat (first | refine blk_drewN ?_ _ | refine blk_drew ?_ | refine blk_alloc ?_ _)); exact BK162.out) Try.underlying30 rfl (by kernel_rfl)) rfl ?_
 exact ⟨_, zv, by (with_reducible repeat (first | apply Kd.R_alloc | apply Kd.R_drewN | apply Kd.R_drew)); exact Kd.R_mono (Kd.R_far (p := ⟨gb162, 2, none⟩) (Kd.R_far (p := ⟨gb162, 1, none⟩) (Kd.R_far (p := ⟨gb162, 0, none⟩) (Kd.R_far (p := ⟨gb163, 2, none⟩) (Kd.R_types (Kd.R_types HO166.out BK163.out (by decide)) BK162.out (by decide)) (fun _ hk => hk.1.2) (.slice Ao12 t164.length co12)) (fun _ hk => hk.2) (.int .i8 a0_0)) (fun _ hk => hk.2) (.int .i8 a0_1)) (fun _ hk => hk.2) (.slice Ao12 t164.length co12)) (fun _ hk => trivial), zbo⟩
def impl_in.f (a0 : Int) (a1 : Int) (a2 : Int) : Option (Bool) := if a0 ≥ a1 then (some (decide (a0 ≤ a2))) else (some false)
theorem impl_in.calls (a0 : Int) (a1 : Int) (a2 : Int) (r : Bool) (w : World) (h : impl_in.f a0 a1 a2 = some r) :
    Calls Try.prog 47 #[.int .i64 a0, .int .i64 a1, .int .i64 a2] w fun e w' => e = .returned (.bool r) ∧ Drawn0 w w' := by
 have H : (if a0 ≥ a1 then (some (decide (a0 ≤ a2))) else (some false)) = some r := h
 clear h
 by_cases c4 : a0 ≥ a1
 ·rw [if_pos c4] at H
  have c4b0 : decide (a1 ≤ a0) = true := decide_eq_true c4
  clear c4
  obtain rfl := Option.some.inj H
  go_enter Try.func47, Try.ntmps47
  go_wp2
  go_ret
  exact ⟨zi, zdr⟩
 rw [if_neg c4] at H
 have c4b0 : decide (a1 ≤ a0) = false := decide_eq_false c4
 clear c4
 obtain rfl := Option.some.inj H
 go_enter Try.func47, Try.ntmps47
 go_wp2
 go_ret
 exact ⟨zi, zdr⟩
def impl_Cell_placed.f (a0_0 : Int) (a0_1 : Int) : Option (Bool) := (impl_in.f (wrap64 (a0_0)) 0 23).bind fun t168 => (if t168 = true then ((impl_in.f (wrap64 (a0_1)) 0 23).bind fun t169 => (some t169)) else (some false))
theorem impl_Cell_placed.calls (a0_0 : Int) (a0_1 : Int) (r : Bool) (w : World) (h : impl_Cell_placed.f a0_0 a0_1 = some r) :
    Calls Try.prog 65 #[.agg #[.int .i8 a0_0, .int .i8 a0_1]] w fun e w' => e = .returned (.bool r) ∧ Below w.heap.size w w' := by
 have hu34 := Try.underlying34
 have HB := Aside0.mk (Below.refl w.heap.size w)
 have H : ((impl_in.f (wrap64 (a0_0)) 0 23).bind fun t168 => (if t168 = true then ((impl_in.f (wrap64 (a0_1)) 0 23).bind fun t169 => (some t169)) else (some false))) = some r := h
 clear h
 replace H := zob H
 obtain ⟨t168, A20, H⟩ := H
 replace H : (if t168 = true then ((impl_in.f (wrap64 (a0_1)) 0 23).bind fun t169 => (some t169)) else (some false)) = some r := H
 have A2 := Aside0.mk A20
 clear A20
 by_cases c3 : t168 = true
 rotate_left
 ·replace c3 := Bool.eq_false_iff.mpr c3
  subst c3
  have H1 : (some false) = some r := by rw [if_neg (show ¬ (false = true) by decide)] at H; exact H
  clear H
  have H := H1
  clear H1
  obtain rfl := Option.some.inj H
  go_enter Try.func65, Try.ntmps65
  go_wp2_with (first | ((with_reducible refine gate_dst (N := 1) rfl ?_); refine zbx 1 #[.int .i8 a0_0, .int .i8 a0_1] 34 ?_; intro gb167 hg w7 hbox hb; have n_ : _ ∧ _ ∧ _ ∧ _ := ⟨zb HB hb, Aside0.mk (hbox), zg HB hg, zg HB hg⟩; clear HB; obtain ⟨HB, BK167, GW167, GE167⟩ := n_; clear hb hbox hg; obtain ⟨z8_0, z8_1, y8_0, y8_1⟩ := zB2 BK167) | ((with_reducible refine gate_callee (f := 47) rfl ?_); refine goesL_ (some 6) rfl rfl Try.func47 (by kernel_rfl) rfl #[.int .i64 (wrap64 (a0_0)), .int .i64 0, .int .i64 23] rfl zm ?_; (with_reducible refine (impl_in.calls (wrap64 (a0_0)) 0 23 false _ A2.out).mono ?_); rintro e w' ⟨rfl, ⟨nd, rfl⟩⟩; refine ⟨_, rfl, ?_⟩))
  go_ret
  exact ⟨zv, zbo⟩
 subst c3
 have H1 : ((impl_in.f (wrap64 (a0_1)) 0 23).bind fun t169 => (some t169)) = some r := by rw [if_pos rfl] at H; exact H
 clear H
 have H := H1
 clear H1
 replace H := zob H
 obtain ⟨t169, A40, H⟩ := H
 replace H : (some t169) = some r := H
 have A4 := Aside0.mk A40
 clear A40
 obtain rfl := Option.some.inj H
 go_enter Try.func65, Try.ntmps65
 go_wp2_with (first | ((with_reducible refine gate_dst (N := 1) rfl ?_); refine zbx 1 #[.int .i8 a0_0, .int .i8 a0_1] 34 ?_; intro gb167 hg w5 hbox hb; have n_ : _ ∧ _ ∧ _ ∧ _ := ⟨zb HB hb, Aside0.mk (hbox), zg HB hg, zg HB hg⟩; clear HB; obtain ⟨HB, BK167, GW167, GE167⟩ := n_; clear hb hbox hg; obtain ⟨z6_0, z6_1, y6_0, y6_1⟩ := zB2 BK167) | ((with_reducible refine gate_callee (f := 47) rfl ?_); refine goesL_ (some 6) rfl rfl Try.func47 (by kernel_rfl) rfl #[.int .i64 (wrap64 (a0_0)), .int .i64 0, .int .i64 23] rfl zm ?_; (with_reducible refine (impl_in.calls (wrap64 (a0_0)) 0 23 true _ A2.out).mono ?_); rintro e w' ⟨rfl, ⟨nd, rfl⟩⟩; refine ⟨_, rfl, ?_⟩) | (go_at_call 47; (with_reducible refine (impl_in.calls (wrap64 (a0_1)) 0 23 t169 _ A4.out).mono ?_); rintro e w' ⟨rfl, ⟨nd, rfl⟩⟩))
 go_ret
 exact ⟨zv, zbo⟩
def impl_ValidPiece.f (a0_0 : Int) (a0_1 : Int) (a0_2 : Int) (a0_3 : Int) (a0_4 : Int) : Option (Bool) := (impl_in.f (wrap64 (a0_2)) 0 5).bind fun t171 => (if t171 = true then ((impl_in.f (wrap64 (a0_3)) 0 3).bind fun t172 => (if t172 = true then ((impl_in.f (wrap64 (a0_4)) 1 9).bind fun t173 => (if t173 = true then ((impl_Cell_placed.f a0_0 a0_1).bind fun t174 => (some t174)) else (some false))) else (some false))) else (some false))
theorem impl_ValidPiece.calls (a0_0 : Int) (a0_1 : Int) (a0_2 : Int) (a0_3 : Int) (a0_4 : Int) (r : Bool) (w : World) (h : impl_ValidPiece.f a0_0 a0_1 a0_2 a0_3 a0_4 = some r) :
    Calls Try.prog 48 #[.agg #[.int .i8 a0_0, .int .i8 a0_1, .int .i8 a0_2, .int .i8 a0_3, .int .i8 a0_4]] w fun e w' => e = .returned (.bool r) ∧ Below w.heap.size w w' := by
 have hu62 := Try.underlying62
 have hu34 := Try.underlying34
 have HB := Aside0.mk (Below.refl w.heap.size w)
 have H : ((impl_in.f (wrap64 (a0_2)) 0 5).bind fun t171 => (if t171 = true then ((impl_in.f (wrap64 (a0_3)) 0 3).bind fun t172 => (if t172 = true then ((impl_in.f (wrap64 (a0_4)) 1 9).bind fun t173 => (if t173 = true then ((impl_Cell_placed.f a0_0 a0_1).bind fun t174 => (some t174)) else (some false))) else (some false))) else (some false))) = some r := h
 clear h
 replace H := zob H
 obtain ⟨t171, A20, H⟩ := H
 replace H : (if t171 = true then ((impl_in.f (wrap64 (a0_3)) 0 3).bind fun t172 => (if t172 = true then ((impl_in.f (wrap64 (a0_4)) 1 9).bind fun t173 => (if t173 = true then ((impl_Cell_placed.f a0_0 a0_1).bind fun t174 => (some t174)) else (some false))) else (some false))) else (some false)) = some r := H
 have A2 := Aside0.mk A20
 clear A20
 by_cases c3 : t171 = true
 rotate_left
 ·replace c3 := Bool.eq_false_iff.mpr c3
  subst c3
  have H1 : (some false) = some r := by rw [if_neg (show ¬ (false = true) by decide)] at H; exact H
  clear H
  have H := H1
  clear H1
  obtain rfl := Option.some.inj H
  go_enter Try.func48, Try.ntmps48
  go_wp2_with (first | ((with_reducible refine gate_dst (N := 1) rfl ?_); refine zbx 1 #[.int .i8 a0_0, .int .i8 a0_1, .int .i8 a0_2, .int .i8 a0_3, .int .i8 a0_4] 62 ?_; intro gb170 hg w16 hbox hb; have n_ : _ ∧ _ ∧ _ ∧ _ := ⟨zb HB hb, Aside0.mk (hbox), zg HB hg, zg HB hg⟩; clear HB; obtain ⟨HB, BK170, GW170, GE170⟩ := n_; clear hb hbox hg; obtain ⟨z17_0, z17_1, z17_2, z17_3, z17_4, y17_0, y17_1, y17_2, y17_3, y17_4⟩ := zB5 BK170) | ((with_reducible refine gate_callee (f := 47) rfl ?_); refine goesL_ (some 6) rfl rfl Try.func47 (by kernel_rfl) rfl #[.int .i64 (wrap64 (a0_2)), .int .i64 0, .int .i64 5] rfl zm ?_; (with_reducible refine (impl_in.calls (wrap64 (a0_2)) 0 5 false _ A2.out).mono ?_); rintro e w' ⟨rfl, ⟨nd, rfl⟩⟩; refine ⟨_, rfl, ?_⟩))
  go_ret
  exact ⟨zv, zbo⟩
 subst c3
 have H1 : ((impl_in.f (wrap64 (a0_3)) 0 3).bind fun t172 => (if t172 = true then ((impl_in.f (wrap64 (a0_4)) 1 9).bind fun t173 => (if t173 = true then ((impl_Cell_placed.f a0_0 a0_1).bind fun t174 => (some t174)) else (some false))) else (some false))) = some r := by rw [if_pos rfl] at H; exact H
 clear H
 have H := H1
 clear H1
 replace H := zob H
 obtain ⟨t172, A40, H⟩ := H
 replace H : (if t172 = true then ((impl_in.f (wrap64 (a0_4)) 1 9).bind fun t173 => (if t173 = true then ((impl_Cell_placed.f a0_0 a0_1).bind fun t174 => (some t174)) else (some false))) else (some false)) = some r := H
 have A4 := Aside0.mk A40
 clear A40
 by_cases c5 : t172 = true
 rotate_left
 ·replace c5 := Bool.eq_false_iff.mpr c5
  subst c5
  have H1 : (some false) = some r := by rw [if_neg (show ¬ (false = true) by decide)] at H; exact H
  clear H
  have H := H1
  clear H1
  obtain rfl := Option.some.inj H
  go_enter Try.func48, Try.ntmps48
  go_wp2_with (first | ((with_reducible refine gate_dst (N := 1) rfl ?_); refine zbx 1 #[.int .i8 a0_0, .int .i8 a0_1, .int .i8 a0_2, .int .i8 a0_3, .int .i8 a0_4] 62 ?_; intro gb170 hg w14 hbox hb; have n_ : _ ∧ _ ∧ _ ∧ _ := ⟨zb HB hb, Aside0.mk (hbox), zg HB hg, zg HB hg⟩; clear HB; obtain ⟨HB, BK170, GW170, GE170⟩ := n_; clear hb hbox hg; obtain ⟨z15_0, z15_1, z15_2, z15_3, z15_4, y15_0, y15_1, y15_2, y15_3, y15_4⟩ := zB5 BK170) | ((with_reducible refine gate_callee (f := 47) rfl ?_); refine goesL_ (some 6) rfl rfl Try.func47 (by kernel_rfl) rfl #[.int .i64 (wrap64 (a0_2)), .int .i64 0, .int .i64 5] rfl zm ?_; (with_reducible refine (impl_in.calls (wrap64 (a0_2)) 0 5 true _ A2.out).mono ?_); rintro e w' ⟨rfl, ⟨nd, rfl⟩⟩; refine ⟨_, rfl, ?_⟩) | (go_at_call 47; (with_reducible refine (impl_in.calls (wrap64 (a0_3)) 0 3 false _ A4.out).mono ?_); rintro e w' ⟨rfl, ⟨nd, rfl⟩⟩))
  go_ret
  exact ⟨zv, zbo⟩
 subst c5
 have H1 : ((impl_in.f (wrap64 (a0_4)) 1 9).bind fun t173 => (if t173 = true then ((impl_Cell_placed.f a0_0 a0_1).bind fun t174 => (some t174)) else (some false))) = some r := by rw [if_pos rfl] at H; exact H
 clear H
 have H := H1
 clear H1
 replace H := zob H
 obtain ⟨t173, A60, H⟩ := H
 replace H : (if t173 = true then ((impl_Cell_placed.f a0_0 a0_1).bind fun t174 => (some t174)) else (some false)) = some r := H
 have A6 := Aside0.mk A60
 clear A60
 by_cases c7 : t173 = true
 rotate_left
 ·replace c7 := Bool.eq_false_iff.mpr c7
  subst c7
  have H1 : (some false) = some r := by rw [if_neg (show ¬ (false = true) by decide)] at H; exact H
  clear H
  have H := H1
  clear H1
  obtain rfl := Option.some.inj H
  go_enter Try.func48, Try.ntmps48
  go_wp2_with (first | ((with_reducible refine gate_dst (N := 1) rfl ?_); refine zbx 1 #[.int .i8 a0_0, .int .i8 a0_1, .int .i8 a0_2, .int .i8 a0_3, .int .i8 a0_4] 62 ?_; intro gb170 hg w12 hbox hb; have n_ : _ ∧ _ ∧ _ ∧ _ := ⟨zb HB hb, Aside0.mk (hbox), zg HB hg, zg HB hg⟩; clear HB; obtain ⟨HB, BK170, GW170, GE170⟩ := n_; clear hb hbox hg; obtain ⟨z13_0, z13_1, z13_2, z13_3, z13_4, y13_0, y13_1, y13_2, y13_3, y13_4⟩ := zB5 BK170) | ((with_reducible refine gate_callee (f := 47) rfl ?_); refine goesL_ (some 6) rfl rfl Try.func47 (by kernel_rfl) rfl #[.int .i64 (wrap64 (a0_2)), .int .i64 0, .int .i64 5] rfl zm ?_; (with_reducible refine (impl_in.calls (wrap64 (a0_2)) 0 5 true _ A2.out).mono ?_); rintro e w' ⟨rfl, ⟨nd, rfl⟩⟩; refine ⟨_, rfl, ?_⟩) | (go_at_call 47; (with_reducible refine (impl_in.calls (wrap64 (a0_3)) 0 3 true _ A4.out).mono ?_); rintro e w' ⟨rfl, ⟨nd, rfl⟩⟩) | (go_at_call 47; (with_reducible refine (impl_in.calls (wrap64 (a0_4)) 1 9 false _ A6.out).mono ?_); rintro e w' ⟨rfl, ⟨nd, rfl⟩⟩))
  go_ret
  exact ⟨zv, zbo⟩
 subst c7
 have H1 : ((impl_Cell_placed.f a0_0 a0_1).bind fun t174 => (some t174)) = some r := by rw [if_pos rfl] at H; exact H
 clear H
 have H := H1
 clear H1
 replace H := zob H
 obtain ⟨t174, A80, H⟩ := H
 replace H : (some t174) = some r := H
 have A8 := Aside0.mk A80
 clear A80
 obtain rfl := Option.some.inj H
 go_enter Try.func48, Try.ntmps48
 go_wp2_with (first | ((with_reducible refine gate_dst (N := 1) rfl ?_); refine zbx 1 #[.int .i8 a0_0, .int .i8 a0_1, .int .i8 a0_2, .int .i8 a0_3, .int .i8 a0_4] 62 ?_; intro gb170 hg w9 hbox hb; have n_ : _ ∧ _ ∧ _ ∧ _ := ⟨zb HB hb, Aside0.mk (hbox), zg HB hg, zg HB hg⟩; clear HB; obtain ⟨HB, BK170, GW170, GE170⟩ := n_; clear hb hbox hg; obtain ⟨z10_0, z10_1, z10_2, z10_3, z10_4, y10_0, y10_1, y10_2, y10_3, y10_4⟩ := zB5 BK170) | ((with_reducible refine gate_callee (f := 47) rfl ?_); refine goesL_ (some 6) rfl rfl Try.func47 (by kernel_rfl) rfl #[.int .i64 (wrap64 (a0_2)), .int .i64 0, .int .i64 5] rfl zm ?_; (with_reducible refine (impl_in.calls (wrap64 (a0_2)) 0 5 true _ A2.out).mono ?_); rintro e w' ⟨rfl, ⟨nd, rfl⟩⟩; refine ⟨_, rfl, ?_⟩) | (go_at_call 47; (with_reducible refine (impl_in.calls (wrap64 (a0_3)) 0 3 true _ A4.out).mono ?_); rintro e w' ⟨rfl, ⟨nd, rfl⟩⟩) | (go_at_call 47; (with_reducible refine (impl_in.calls (wrap64 (a0_4)) 1 9 true _ A6.out).mono ?_); rintro e w' ⟨rfl, ⟨nd, rfl⟩⟩) | (go_at_call 65; (with_reducible refine (impl_Cell_placed.calls a0_0 a0_1 t174 _ A8.out).mono ?_); rintro e w11 ⟨rfl, hb⟩; have n_ : _ ∧ _ := ⟨zk BK170 hb, zbs hb⟩; clear BK170 HB; obtain ⟨BK170, HB⟩ := n_; (try clear hb); (try clear hb2); (try clear hk); (try clear hi)))
 go_ret
 exact ⟨zv, zbo⟩
def impl_Board_has.f (l0 : List (S30)) (a1_0 : Int) (a1_1 : Int) : Option (Bool) := if a1_0 ≥ 0 then (if 0 < (l0.length : Int) then (if a1_0 < ((rd_T30 l0 0).f0) then (if a1_1 ≥ 0 then (some (decide (a1_1 < ((rd_T30 l0 0).f1)))) else (some false)) else (some false)) else (none)) else (some false)
theorem impl_Board_has.calls (adp0 : Addr) (l0 : List (S30)) (a1_0 : Int) (a1_1 : Int) (r : Bool) (w : World) (hr0 : Kd.C k30 w (some adp0) l0.length l0) (h : impl_Board_has.f l0 a1_0 a1_1 = some r) :
    Calls Try.prog 49 #[.pointer (some adp0), .agg #[.int .i8 a1_0, .int .i8 a1_1]] w fun e w' => e = .returned (.bool r) ∧ Below w.heap.size w w' := by
 have hu34 := Try.underlying34
 have HR0 := Aside0.mk hr0
 clear hr0
 have HB := Aside0.mk (Below.refl w.heap.size w)
 have H : (if a1_0 ≥ 0 then (if 0 < (l0.length : Int) then (if a1_0 < ((rd_T30 l0 0).f0) then (if a1_1 ≥ 0 then (some (decide (a1_1 < ((rd_T30 l0 0).f1)))) else (some false)) else (some false)) else (none)) else (some false)) = some r := h
 clear h
 by_cases c3 : a1_0 ≥ 0
 rotate_left
 ·rw [if_neg c3] at H
  have c3b0 : decide (0 ≤ a1_0) = false := decide_eq_false c3
  clear c3
  obtain rfl := Option.some.inj H
  go_enter Try.func49, Try.ntmps49
  go_wp2_with (first | ((with_reducible refine gate_dst (N := 3) rfl ?_); refine zbx 3 #[.int .i8 a1_0, .int .i8 a1_1] 34 ?_; intro gb175 hg w13 hbox hb; have n_ : _ ∧ _ ∧ _ ∧ _ := ⟨zb HB hb, Aside0.mk (hbox), zg HB hg, zg HB hg⟩; clear HB; obtain ⟨HB, BK175, GW175, GE175⟩ := n_; clear hb hbox hg; obtain ⟨z14_0, z14_1, y14_0, y14_1⟩ := zB2 BK175) | go_quiet (fail))
  go_ret
  exact ⟨zv, zbo⟩
 rw [if_pos c3] at H
 have c3b0 : decide (0 ≤ a1_0) = true := decide_eq_true c3
 clear c3
 by_cases c4 : 0 < (l0.length : Int)
 rotate_left
 ·rw [if_neg c4] at H
  exact absurd H (by simp)
 rw [if_pos c4] at H
 have c4b0 : decide (0 < (l0.length : Int)) = true := decide_eq_true c4
 have c4b1 : decide (0 < l0.length) = true := decide_eq_true (by omega)
 clear c4
 by_cases c5 : a1_0 < ((rd_T30 l0 0).f0)
 rotate_left
 ·rw [if_neg c5] at H
  have c5b0 : decide (a1_0 < ((rd_T30 l0 0).f0)) = false := decide_eq_false c5
  clear c5
  obtain rfl := Option.some.inj H
  go_enter Try.func49, Try.ntmps49
  go_wp2_with (first | ((with_reducible refine gate_dst (N := 3) rfl ?_); refine zbx 3 #[.int .i8 a1_0, .int .i8 a1_1] 34 ?_; intro gb175 hg w11 hbox hb; have n_ : _ ∧ _ ∧ _ ∧ _ := ⟨zb HB hb, Aside0.mk (hbox), zg HB hg, zg HB hg⟩; clear HB; obtain ⟨HB, BK175, GW175, GE175⟩ := n_; clear hb hbox hg; obtain ⟨z12_0, z12_1, y12_0, y12_1⟩ := zB2 BK175; have p176 : 0 ≤ (0 : Int) := (by omega); have q176 : 0 < (l0.length : Int) := of_decide_eq_true zA; obtain ⟨ad176, A176_2, c176_2, e176, hx176_0, hx176_1, hx176_2, hl176_2, hi176_2⟩ := at_T30 HR0.out 0 p176 q176; obtain rfl : adp0 = ad176 := (by injection e176); have qi176 : (0 < l0.length) = True := eq_true (by omega); (try simp only [z00, Nat.zero_mul, Addr.add_zero'] at hx176_0 hx176_1 hx176_2); replace hx176_0 := zc HB hx176_0; replace hx176_1 := zc HB hx176_1; replace hx176_2 := zc HB hx176_2; have HR176_2 := Aside0.mk hi176_2; have HC176_2 := Aside0.mk hl176_2; clear hi176_2 hl176_2; replace p176 := eq_true p176; replace q176 := eq_true q176) | go_quiet (fail))
  go_ret
  exact ⟨zv, zbo⟩
 rw [if_pos c5] at H
 have c5b0 : decide (a1_0 < ((rd_T30 l0 0).f0)) = true := decide_eq_true c5
 clear c5
 by_cases c6 : a1_1 ≥ 0
 rotate_left
 ·rw [if_neg c6] at H
  have c6b0 : decide (0 ≤ a1_1) = false := decide_eq_false c6
  clear c6
  obtain rfl := Option.some.inj H
  go_enter Try.func49, Try.ntmps49
  go_wp2_with (first | ((with_reducible refine gate_dst (N := 3) rfl ?_); refine zbx 3 #[.int .i8 a1_0, .int .i8 a1_1] 34 ?_; intro gb175 hg w9 hbox hb; have n_ : _ ∧ _ ∧ _ ∧ _ := ⟨zb HB hb, Aside0.mk (hbox), zg HB hg, zg HB hg⟩; clear HB; obtain ⟨HB, BK175, GW175, GE175⟩ := n_; clear hb hbox hg; obtain ⟨z10_0, z10_1, y10_0, y10_1⟩ := zB2 BK175; have p176 : 0 ≤ (0 : Int) := (by omega); have q176 : 0 < (l0.length : Int) := of_decide_eq_true zA; obtain ⟨ad176, A176_2, c176_2, e176, hx176_0, hx176_1, hx176_2, hl176_2, hi176_2⟩ := at_T30 HR0.out 0 p176 q176; obtain rfl : adp0 = ad176 := (by injection e176); have qi176 : (0 < l0.length) = True := eq_true (by omega); (try simp only [z00, Nat.zero_mul, Addr.add_zero'] at hx176_0 hx176_1 hx176_2); replace hx176_0 := zc HB hx176_0; replace hx176_1 := zc HB hx176_1; replace hx176_2 := zc HB hx176_2; have HR176_2 := Aside0.mk hi176_2; have HC176_2 := Aside0.mk hl176_2; clear hi176_2 hl176_2; replace p176 := eq_true p176; replace q176 := eq_true q176) | go_quiet (fail))
  go_ret
  exact ⟨zv, zbo⟩
 rw [if_pos c6] at H
 have c6b0 : decide (0 ≤ a1_1) = true := decide_eq_true c6
 clear c6
 obtain rfl := Option.some.inj H
 go_enter Try.func49, Try.ntmps49
 go_wp2_with (first | ((with_reducible refine gate_dst (N := 3) rfl ?_); refine zbx 3 #[.int .i8 a1_0, .int .i8 a1_1] 34 ?_; intro gb175 hg w7 hbox hb; have n_ : _ ∧ _ ∧ _ ∧ _ := ⟨zb HB hb, Aside0.mk (hbox), zg HB hg, zg HB hg⟩; clear HB; obtain ⟨HB, BK175, GW175, GE175⟩ := n_; clear hb hbox hg; obtain ⟨z8_0, z8_1, y8_0, y8_1⟩ := zB2 BK175; have p176 : 0 ≤ (0 : Int) := (by omega); have q176 : 0 < (l0.length : Int) := of_decide_eq_true zA; obtain ⟨ad176, A176_2, c176_2, e176, hx176_0, hx176_1, hx176_2, hl176_2, hi176_2⟩ := at_T30 HR0.out 0 p176 q176; obtain rfl : adp0 = ad176 := (by injection e176); have qi176 : (0 < l0.length) = True := eq_true (by omega); (try simp only [z00, Nat.zero_mul, Addr.add_zero'] at hx176_0 hx176_1 hx176_2); replace hx176_0 := zc HB hx176_0; replace hx176_1 := zc HB hx176_1; replace hx176_2 := zc HB hx176_2; have HR176_2 := Aside0.mk hi176_2; have HC176_2 := Aside0.mk hl176_2; clear hi176_2 hl176_2; replace p176 := eq_true p176; replace q176 := eq_true q176; have p177 : 0 ≤ (0 : Int) := (by omega); have q177 : 0 < (l0.length : Int) := of_decide_eq_true zA; obtain ⟨ad177, A177_2, c177_2, e177, hx177_0, hx177_1, hx177_2, hl177_2, hi177_2⟩ := at_T30 HR0.out 0 p177 q177; obtain rfl : adp0 = ad177 := (by injection e177); have qi177 : (0 < l0.length) = True := eq_true (by omega); (try simp only [z00, Nat.zero_mul, Addr.add_zero'] at hx177_0 hx177_1 hx177_2); replace hx177_0 := zc HB hx177_0; replace hx177_1 := zc HB hx177_1; replace hx177_2 := zc HB hx177_2; have HR177_2 := Aside0.mk hi177_2; have HC177_2 := Aside0.mk hl177_2; clear hi177_2 hl177_2; replace p177 := eq_true p177; replace q177 := eq_true q177; have ea_ := Option.some.inj (hx176_2.symm.trans hx177_2); injection ea_ with ea_ en_ ec_; subst ea_; subst ec_; clear en_) | go_quiet (fail))
 go_ret
 exact ⟨zv, zbo⟩
theorem cellKey : CellKey Try.prog 34 22 := ⟨Try.underlying34, Try.underlying22, by kernel_rfl⟩
theorem zeroBool (w : World) : (zeroValue 4).run Try.prog w = .ok (.bool false) w := by kernel_rfl
mutual
def impl_ValidBoard.j0 : Nat → Bool → Int → Int → List (S62) → Option (Bool)
  | 0, _, _, _, _ => none
  | k + 1, x23, x171000, x171001, x171002 => if x23 = true then (some false) else (impl_ValidBoard.l0 k x171002 (x171002.length : Int) 0 x171000 x171001 x171002 [])
def impl_ValidBoard.l0 : Nat → List (S62) → Int → Int → Int → Int → List (S62) → List ((Int × Int) × Unit) → Option (Bool)
  | 0, _, _, _, _, _, _, _ => none
  | k + 1, x26, x27, x28, x171000, x171001, x171002, x900 => if x28 < x27 then (if 0 ≤ x28 then (if x28 < (x26.length : Int) then ((impl_ValidPiece.f ((rd_T62 x26 x28).f0.f0) ((rd_T62 x26 x28).f0.f1) ((rd_T62 x26 x28).f1) ((rd_T62 x26 x28).f2) ((rd_T62 x26 x28).f3)).bind fun t175 => (if t175 = true then ((impl_Board_has.f [(⟨x171000, x171001, x171002⟩ : S30)] ((rd_T62 x26 x28).f0.f0) ((rd_T62 x26 x28).f0.f1)).bind fun t176 => (if t176 = true then (if (mfind x900 ((rd_T62 x26 x28).f0.f0) ((rd_T62 x26 x28).f0.f1)).isSome = true then (some false) else (impl_ValidBoard.l0 k x26 x27 (wrap64 (x28 + 1)) x171000 x171001 x171002 (x900 ++ [((((rd_T62 x26 x28).f0.f0), ((rd_T62 x26 x28).f0.f1)), ())]))) else (some false))) else (some false))) else (none)) else (none)) else (some true)
end
def impl_ValidBoard.f (k : Nat) (a0_0 : Int) (a0_1 : Int) (l0_2 : List (S62)) : Option (Bool) := (impl_in.f (wrap64 (a0_0)) 1 24).bind fun t171 => (if t171 = true then ((impl_in.f (wrap64 (a0_1)) 1 24).bind fun t172 => (if t172 = true then (impl_ValidBoard.j0 k (decide ((l0_2.length : Int) > 200)) a0_0 a0_1 l0_2) else (impl_ValidBoard.j0 k true a0_0 a0_1 l0_2))) else (impl_ValidBoard.j0 k true a0_0 a0_1 l0_2))
theorem impl_ValidBoard.mono_l : ∀ k, (∀ y0 y1 y2 y3, LeO (impl_ValidBoard.j0 k y0 y1 y2 y3) (impl_ValidBoard.j0 (k + 1) y0 y1 y2 y3)) ∧ (∀ y0 y1 y2 y3 y4 y5 y6, LeO (impl_ValidBoard.l0 k y0 y1 y2 y3 y4 y5 y6) (impl_ValidBoard.l0 (k + 1) y0 y1 y2 y3 y4 y5 y6))
  | 0 => ⟨fun _ _ _ _ r h => by simp [impl_ValidBoard.j0] at h, fun _ _ _ _ _ _ _ r h => by simp [impl_ValidBoard.l0] at h⟩
  | k + 1 => by
    obtain ⟨ih0, ih1⟩ := impl_ValidBoard.mono_l k
    refine ⟨?_, ?_⟩
    · intro y0 y1 y2 y3
      unfold impl_ValidBoard.j0
      repeat' first | (with_reducible first | apply ih0 | apply ih1 | exact LeO.refl _ | exact LeO.none _ | refine LeO.ite ?_ ?_ | refine LeO.bind ?_ (fun _ => ?_)) | apply ih0 | apply ih1 | exact LeO.none _ | refine LeO.ite ?_ ?_ | refine LeO.bind ?_ (fun _ => ?_)
    · intro y0 y1 y2 y3 y4 y5 y6
      unfold impl_ValidBoard.l0
      repeat' first | (with_reducible first | apply ih0 | apply ih1 | exact LeO.refl _ | exact LeO.none _ | refine LeO.ite ?_ ?_ | refine LeO.bind ?_ (fun _ => ?_)) | apply ih0 | apply ih1 | exact LeO.none _ | refine LeO.ite ?_ ?_ | refine LeO.bind ?_ (fun _ => ?_)
theorem impl_ValidBoard.mono : ∀ a0 a1 a2 k, LeO (impl_ValidBoard.f k a0 a1 a2) (impl_ValidBoard.f (k + 1) a0 a1 a2) := by
 intro a0 a1 a2 k
 obtain ⟨ih0, ih1⟩ := impl_ValidBoard.mono_l k
 unfold impl_ValidBoard.f
 repeat' first | (with_reducible first | apply ih0 | apply ih1 | exact LeO.refl _ | exact LeO.none _ | refine LeO.ite ?_ ?_ | refine LeO.bind ?_ (fun _ => ?_)) | apply ih0 | apply ih1 | exact LeO.none _ | refine LeO.ite ?_ ?_ | refine LeO.bind ?_ (fun _ => ?_)
theorem impl_ValidBoard.calls (k : Nat) (a0_0 : Int) (a0_1 : Int) (A0_2 : Option Addr) (c0_2 : Nat) (l0_2 : List (S62)) (r : Bool) (w : World) (hr0_2 : Kd.C k62 w A0_2 l0_2.length l0_2) (hc0_2 : l0_2.length ≤ c0_2) (h : impl_ValidBoard.f k a0_0 a0_1 l0_2 = some r) :
    Calls Try.prog 29 #[.agg #[.int .i8 a0_0, .int .i8 a0_1, .slice A0_2 l0_2.length c0_2]] w fun e w' => e = .returned (.bool r) ∧ Below w.heap.size w w' := by
 have hu30 := Try.underlying30
 have hu62 := Try.underlying62
 have hu34 := Try.underlying34
 have HR0_2 := Aside0.mk hr0_2
 have HC0_2 := Aside0.mk hc0_2
 clear hr0_2 hc0_2
 have HB := Aside0.mk (Below.refl w.heap.size w)
 have H : ((impl_in.f (wrap64 (a0_0)) 1 24).bind fun t171 => (if t171 = true then ((impl_in.f (wrap64 (a0_1)) 1 24).bind fun t172 => (if t172 = true then (impl_ValidBoard.j0 k (decide ((l0_2.length : Int) > 200)) a0_0 a0_1 l0_2) else (impl_ValidBoard.j0 k true a0_0 a0_1 l0_2))) else (impl_ValidBoard.j0 k true a0_0 a0_1 l0_2))) = some r := h
 clear h
 have HC2 := Aside0.mk H
 clear H
 go_enter Try.func29, Try.ntmps29
 go_upto_region 1 with (first | ((with_reducible refine gate_dst (N := 1) rfl ?_); (try (refine gate_guard (by rfl) ?_; dsimp only)); refine zbx 1 #[.int .i8 a0_0, .int .i8 a0_1, .slice A0_2 l0_2.length c0_2] 30 ?_; intro gb170 hg w3 hbox hb; have n_ : _ ∧ _ ∧ _ ∧ _ := ⟨zb HB hb, Aside0.mk (hbox), zg HB hg, zg HB hg⟩; clear HB; obtain ⟨HB, BK170, GW170, GE170⟩ := n_; clear hb hbox hg))
 (try simp only [Act.put, List.setIfInBounds_toArray, List.set_cons_zero, List.set_cons_succ])
 go_cut [23] (fun v23 wc => ∃ (kq : Nat) (x23_1 : Bool), v23 = .bool x23_1 ∧ Aside0 (impl_ValidBoard.j0 kq x23_1 a0_0 a0_1 l0_2 = some r) ∧ Aside0 (kq ≤ k) ∧ Aside0 (wc.heap[gb170]? = some (.cells #[.int .i8 a0_0, .int .i8 a0_1, (.slice A0_2 l0_2.length c0_2)] 30 (0, 0))) ∧ Aside0 (Below w.heap.size w wc))
 case first =>
  have H := HC2.out
  clear HC2
  replace H := zob H
  obtain ⟨t171, A40, H⟩ := H
  replace H : (if t171 = true then ((impl_in.f (wrap64 (a0_1)) 1 24).bind fun t172 => (if t172 = true then (impl_ValidBoard.j0 k (decide ((l0_2.length : Int) > 200)) a0_0 a0_1 l0_2) else (impl_ValidBoard.j0 k true a0_0 a0_1 l0_2))) else (impl_ValidBoard.j0 k true a0_0 a0_1 l0_2)) = some r := H
  have A4 := Aside0.mk A40
  clear A40
  by_cases c5 : t171 = true
  rotate_left
  ·replace c5 := Bool.eq_false_iff.mpr c5
   subst c5
   have H1 : (impl_ValidBoard.j0 k true a0_0 a0_1 l0_2) = some r := by rw [if_neg (show ¬ (false = true) by decide)] at H; exact H
   clear H
   have H := H1
   clear H1
   have H' := Aside0.mk H
   clear H
   obtain ⟨z10_0, z10_1, z10_2, y10_0, y10_1, y10_2⟩ := zB3 BK170
   go_wp2_with (first | ((with_reducible refine gate_callee (f := 47) rfl ?_); refine goesL_ (some 9) rfl rfl Try.func47 (by kernel_rfl) rfl #[.int .i64 (wrap64 (a0_0)), .int .i64 1, .int .i64 24] rfl zm ?_; (with_reducible refine (impl_in.calls (wrap64 (a0_0)) 1 24 false _ A4.out).mono ?_); rintro e w' ⟨rfl, ⟨nd, rfl⟩⟩; refine ⟨_, rfl, ?_⟩))
   go_meet
   case rel => exact ⟨_, (true), zi, H', ⟨by first | omega | exact Nat.le_refl _⟩, zh BK170, zba⟩
  subst c5
  have H1 : ((impl_in.f (wrap64 (a0_1)) 1 24).bind fun t172 => (if t172 = true then (impl_ValidBoard.j0 k (decide ((l0_2.length : Int) > 200)) a0_0 a0_1 l0_2) else (impl_ValidBoard.j0 k true a0_0 a0_1 l0_2))) = some r := by rw [if_pos rfl] at H; exact H
  clear H
  have H := H1
  clear H1
  replace H := zob H
  obtain ⟨t172, A60, H⟩ := H
  replace H : (if t172 = true then (impl_ValidBoard.j0 k (decide ((l0_2.length : Int) > 200)) a0_0 a0_1 l0_2) else (impl_ValidBoard.j0 k true a0_0 a0_1 l0_2)) = some r := H
  have A6 := Aside0.mk A60
  clear A60
  by_cases c7 : t172 = true
  ·subst c7
   have H1 : (impl_ValidBoard.j0 k (decide ((l0_2.length : Int) > 200)) a0_0 a0_1 l0_2) = some r := by rw [if_pos rfl] at H; exact H
   clear H
   have H := H1
   clear H1
   have H' := Aside0.mk H
   clear H
   obtain ⟨z8_0, z8_1, z8_2, y8_0, y8_1, y8_2⟩ := zB3 BK170
   go_wp2_with (first | ((with_reducible refine gate_callee (f := 47) rfl ?_); refine goesL_ (some 9) rfl rfl Try.func47 (by kernel_rfl) rfl #[.int .i64 (wrap64 (a0_0)), .int .i64 1, .int .i64 24] rfl zm ?_; (with_reducible refine (impl_in.calls (wrap64 (a0_0)) 1 24 true _ A4.out).mono ?_); rintro e w' ⟨rfl, ⟨nd, rfl⟩⟩; refine ⟨_, rfl, ?_⟩) | (go_at_call 47; (with_reducible refine (impl_in.calls (wrap64 (a0_1)) 1 24 true _ A6.out).mono ?_); rintro e w' ⟨rfl, ⟨nd, rfl⟩⟩))
   go_meet
   case rel => exact ⟨_, (decide ((l0_2.length : Int) > 200)), zi, H', ⟨by first | omega | exact Nat.le_refl _⟩, zh BK170, zba⟩
  replace c7 := Bool.eq_false_iff.mpr c7
  subst c7
  have H1 : (impl_ValidBoard.j0 k true a0_0 a0_1 l0_2) = some r := by rw [if_neg (show ¬ (false = true) by decide)] at H; exact H
  clear H
  have H := H1
  clear H1
  have H' := Aside0.mk H
  clear H
  obtain ⟨z9_0, z9_1, z9_2, y9_0, y9_1, y9_2⟩ := zB3 BK170
  go_wp2_with (first | ((with_reducible refine gate_callee (f := 47) rfl ?_); refine goesL_ (some 9) rfl rfl Try.func47 (by kernel_rfl) rfl #[.int .i64 (wrap64 (a0_0)), .int .i64 1, .int .i64 24] rfl zm ?_; (with_reducible refine (impl_in.calls (wrap64 (a0_0)) 1 24 true _ A4.out).mono ?_); rintro e w' ⟨rfl, ⟨nd, rfl⟩⟩; refine ⟨_, rfl, ?_⟩) | (go_at_call 47; (with_reducible refine (impl_in.calls (wrap64 (a0_1)) 1 24 false _ A6.out).mono ?_); rintro e w' ⟨rfl, ⟨nd, rfl⟩⟩))
  go_meet
  case rel => exact ⟨_, (true), zi, H', ⟨by first | omega | exact Nat.le_refl _⟩, zh BK170, zba⟩
 clear HC2
 try clear p2
 try clear c4
 try clear c5
 try clear p6
 try clear c7
 try clear c9
 try clear z10_0 z10_1 z10_2
 try clear z8_0 z8_1 z8_2
 try clear z9_0 z9_1 z9_2
 try clear y10_0
 try clear y10_1
 try clear y10_2
 try clear y8_0
 try clear y8_1
 try clear y8_2
 try clear y9_0
 try clear y9_1
 try clear y9_2
 obtain ⟨kq, x23_1, rfl, HA, HJ1, BK170, HB⟩ := hcut
 cases kq with
 | zero => exact absurd HA.out (by simp [impl_ValidBoard.j0])
 | succ kj1 => ?_
 have H := HA.out
 clear HA
 simp only [impl_ValidBoard.j0] at H
 by_cases c11 : x23_1 = true
 ·subst c11
  have H1 : (some false) = some r := by rw [if_pos rfl] at H; exact H
  clear H
  have H := H1
  clear H1
  obtain rfl := Option.some.inj H
  go_wp2
  go_ret
  exact ⟨zv, zbo⟩
 replace c11 := Bool.eq_false_iff.mpr c11
 subst c11
 have H1 : (impl_ValidBoard.l0 kj1 l0_2 (l0_2.length : Int) 0 a0_0 a0_1 l0_2 []) = some r := by rw [if_neg (show ¬ (false = true) by decide)] at H; exact H
 clear H
 have H := H1
 clear H1
 have H' := Aside0.mk H
 clear H
 obtain ⟨z12_0, z12_1, z12_2, y12_0, y12_1, y12_2⟩ := zB3 BK170
 go_wp2_with (first | ((with_reducible refine gate_dst (N := 24) rfl ?_); (try (refine gate_guard (by rfl) ?_; dsimp only)); refine map_event rfl 79 rfl ?_; intro gm hg w40 hmap hb; have n_ : _ ∧ _ ∧ _ ∧ _ := ⟨zk BK170 hb, zbs hb, Aside0.mk hmap, Aside0.mk ((by rw [hg]; exact (zz HB)) : w.heap.size ≤ gm)⟩; clear BK170 HB; obtain ⟨BK170, HB, MM, GEM⟩ := n_; clear hb hmap hg; obtain ⟨z40_0, z40_1, z40_2, y40_0, y40_1, y40_2⟩ := zB3 BK170))
 go_loopg [28] kj1 (fun kq v28 w' => ∃ (x28_2 : Int) (x900 : List ((Int × Int) × Unit)) (es : Array MapEntry) (ck : Nat), v28 = .int .i64 x28_2 ∧ Aside0 (impl_ValidBoard.l0 kq l0_2 (l0_2.length : Int) x28_2 a0_0 a0_1 l0_2 x900 = some r) ∧ Aside0 (kq ≤ kj1) ∧ Aside0 (w'.heap[gb170]? = some (.cells #[.int .i8 a0_0, .int .i8 a0_1, (.slice A0_2 l0_2.length c0_2)] 30 (0, 0))) ∧ Aside0 (w'.heap[gm]? = some (.map es ck)) ∧ Aside0 (ER (fun _ : Unit => Value.bool true) es x900) ∧ Aside0 (Below w.heap.size w w'))
 case atStart => exact ⟨(0), [], #[], 0, zi, H', ⟨Nat.le_refl _⟩, zh BK170, zh MM, ⟨rfl⟩, zba⟩
 clear H'
 try clear c1
 try clear p2
 try clear c4
 try clear c5
 try clear p6
 try clear c7
 try clear c9
 try clear c11
 try clear z10_0 z10_1 z10_2
 try clear z12_0 z12_1 z12_2
 try clear z8_0 z8_1 z8_2
 try clear z9_0 z9_1 z9_2
 try clear y10_0
 try clear y10_1
 try clear y10_2
 try clear y12_0
 try clear y12_1
 try clear y12_2
 try clear y8_0
 try clear y8_1
 try clear y8_2
 try clear y9_0
 try clear y9_1
 try clear y9_2
 try clear p2
 try clear p6
 obtain ⟨x28_2, x900, es, ck, rfl, HA, HK2, BK170, MM, MER, HB⟩ := hrel
 have GMB : Aside0 (gb170 ≠ gm) := ⟨by rintro rfl; have h1 := BK170.out; rw [MM.out] at h1; cases h1⟩
 try clear z40_0 z40_1 z40_2 y40_0 y40_1 y40_2
 cases gk with
 | zero => exact absurd HA.out (by simp [impl_ValidBoard.l0])
 | succ k2 => ?_
 have H := HA.out
 clear HA
 simp only [impl_ValidBoard.l0] at H
 by_cases c13 : x28_2 < (l0_2.length : Int)
 rotate_left
 ·rw [if_neg c13] at H
  have c13b0 : decide (x28_2 < (l0_2.length : Int)) = false := decide_eq_false c13
  clear c13
  obtain rfl := Option.some.inj H
  go_wp2
  go_ret
  exact ⟨zv, zbo⟩
 rw [if_pos c13] at H
 have c13b0 : decide (x28_2 < (l0_2.length : Int)) = true := decide_eq_true c13
 clear c13
 by_cases c14 : 0 ≤ x28_2
 rotate_left
 ·rw [if_neg c14] at H
  exact absurd H (by simp)
 rw [if_pos c14] at H
 have c14b0 : decide (0 ≤ x28_2) = true := decide_eq_true c14
 clear c14
 by_cases c15 : x28_2 < (l0_2.length : Int)
 rotate_left
 ·rw [if_neg c15] at H
  exact absurd H (by simp)
 rw [if_pos c15] at H
 have c15b0 : decide (x28_2 < (l0_2.length : Int)) = true := decide_eq_true c15
 clear c15
 replace H := zob H
 obtain ⟨t175, A160, H⟩ := H
 replace H : (if t175 = true then ((impl_Board_has.f [(⟨a0_0, a0_1, l0_2⟩ : S30)] ((rd_T62 l0_2 x28_2).f0.f0) ((rd_T62 l0_2 x28_2).f0.f1)).bind fun t176 => (if t176 = true then (if (mfind x900 ((rd_T62 l0_2 x28_2).f0.f0) ((rd_T62 l0_2 x28_2).f0.f1)).isSome = true then (some false) else (impl_ValidBoard.l0 k2 l0_2 (l0_2.length : Int) (wrap64 (x28_2 + 1)) a0_0 a0_1 l0_2 (x900 ++ [((((rd_T62 l0_2 x28_2).f0.f0), ((rd_T62 l0_2 x28_2).f0.f1)), ())]))) else (some false))) else (some false)) = some r := H
 have A16 := Aside0.mk A160
 clear A160
 by_cases c17 : t175 = true
 rotate_left
 ·replace c17 := Bool.eq_false_iff.mpr c17
  subst c17
  have H1 : (some false) = some r := by rw [if_neg (show ¬ (false = true) by decide)] at H; exact H
  clear H
  have H := H1
  clear H1
  obtain rfl := Option.some.inj H
  have p173 : 0 ≤ (x28_2 : Int) := of_decide_eq_true zA
  have q173 : x28_2 < (l0_2.length : Int) := of_decide_eq_true zA
  obtain ⟨ad173, e173, hx173_0, hx173_1, hx173_2, hx173_3, hx173_4⟩ := at_T62 HR0_2.out x28_2 p173 q173
  cases e173
  replace hx173_0 := zc HB hx173_0
  replace hx173_1 := zc HB hx173_1
  replace hx173_2 := zc HB hx173_2
  replace hx173_3 := zc HB hx173_3
  replace hx173_4 := zc HB hx173_4
  replace p173 := eq_true p173
  replace q173 := eq_true q173
  go_wp2_with (first | ((with_reducible refine gate_dst (N := 5) rfl ?_); (try (refine gate_guard (by rfl) ?_; dsimp only)); refine zbx 5 #[.int .i8 0, .int .i8 0, .int .i8 0, .int .i8 0, .int .i8 0] 62 ?_; intro gb174 hg w33 hbox hb; have NM174 := Aside0.mk ((by rw [hg]; exact Nat.ne_of_lt (blk_lt (g := gm) (o := .map es ck) (zh MM).out)) : gm ≠ gb174); have m0_ := zk MM hb; clear MM; have MM := m0_; clear m0_; have n_ : _ ∧ _ ∧ _ ∧ _ ∧ _ ∧ _ ∧ _ := ⟨zk BK170 hb, zbs hb, Aside0.mk (hbox), zg HB hg, zg HB hg, zn1 BK170 hg, zn2 BK170 hg⟩; clear BK170 HB; obtain ⟨BK170, HB, BK174, GW174, GE174, NB170_174, NB174_170⟩ := n_; clear hb hbox hg; have hnb34 := NB174_170.out; have hnc34 := NB170_174.out; obtain ⟨z35_0, z35_1, z35_2, z35_3, z35_4, y35_0, y35_1, y35_2, y35_3, y35_4⟩ := zB5 BK174) | ((with_reducible refine gate_callee (f := 48) rfl ?_); refine goesL_ (some 33) rfl rfl Try.func48 (by kernel_rfl) rfl #[.agg #[.int .i8 ((rd_T62 l0_2 x28_2).f0.f0), .int .i8 ((rd_T62 l0_2 x28_2).f0.f1), .int .i8 ((rd_T62 l0_2 x28_2).f1), .int .i8 ((rd_T62 l0_2 x28_2).f2), .int .i8 ((rd_T62 l0_2 x28_2).f3)]] rfl zm ?_; (with_reducible refine (impl_ValidPiece.calls ((rd_T62 l0_2 x28_2).f0.f0) ((rd_T62 l0_2 x28_2).f0.f1) ((rd_T62 l0_2 x28_2).f1) ((rd_T62 l0_2 x28_2).f2) ((rd_T62 l0_2 x28_2).f3) false _ A16.out).mono ?_); rintro e w36 ⟨rfl, hb⟩; refine ⟨_, rfl, ?_⟩; have m0_ := Aside0.mk (blk_below (g := gm) (o := .map es ck) (by (repeat (first | (with_reducible refine blk_drewN ?_ _) | (with_reducible refine blk_drew ?_) | (with_reducible refine blk_alloc ?_ _) | (refine mblk_far ?_ NM174.out _))); exact MM.out) hb); clear MM; have MM := m0_; clear m0_; have n_ : _ ∧ _ ∧ _ := ⟨zfb BK170 NB170_174 hb, Aside0.mk (blk_below (g := gb174) (o := .cells #[.int .i8 ((rd_T62 l0_2 x28_2).f0.f0), .int .i8 ((rd_T62 l0_2 x28_2).f0.f1), .int .i8 ((rd_T62 l0_2 x28_2).f1), .int .i8 ((rd_T62 l0_2 x28_2).f2), .int .i8 ((rd_T62 l0_2 x28_2).f3)] 62 (0, 0)) (zp BK174) hb), zbs hb⟩; clear BK170 BK174 HB; obtain ⟨BK170, BK174, HB⟩ := n_; (try clear hb); (try clear hb2); (try clear hk); (try clear hi)))
  go_ret
  exact ⟨zv, zbo⟩
 subst c17
 have H1 : ((impl_Board_has.f [(⟨a0_0, a0_1, l0_2⟩ : S30)] ((rd_T62 l0_2 x28_2).f0.f0) ((rd_T62 l0_2 x28_2).f0.f1)).bind fun t176 => (if t176 = true then (if (mfind x900 ((rd_T62 l0_2 x28_2).f0.f0) ((rd_T62 l0_2 x28_2).f0.f1)).isSome = true then (some false) else (impl_ValidBoard.l0 k2 l0_2 (l0_2.length : Int) (wrap64 (x28_2 + 1)) a0_0 a0_1 l0_2 (x900 ++ [((((rd_T62 l0_2 x28_2).f0.f0), ((rd_T62 l0_2 x28_2).f0.f1)), ())]))) else (some false))) = some r := by rw [if_pos rfl] at H; exact H
 clear H
 have H := H1
 clear H1
 replace H := zob H
 obtain ⟨t176, A180, H⟩ := H
 replace H : (if t176 = true then (if (mfind x900 ((rd_T62 l0_2 x28_2).f0.f0) ((rd_T62 l0_2 x28_2).f0.f1)).isSome = true then (some false) else (impl_ValidBoard.l0 k2 l0_2 (l0_2.length : Int) (wrap64 (x28_2 + 1)) a0_0 a0_1 l0_2 (x900 ++ [((((rd_T62 l0_2 x28_2).f0.f0), ((rd_T62 l0_2 x28_2).f0.f1)), ())]))) else (some false)) = some r := H
 have A18 := Aside0.mk A180
 clear A180
 by_cases c19 : t176 = true
 rotate_left
 ·replace c19 := Bool.eq_false_iff.mpr c19
  subst c19
  have H1 : (some false) = some r := by rw [if_neg (show ¬ (false = true) by decide)] at H; exact H
  clear H
  have H := H1
  clear H1
  obtain rfl := Option.some.inj H
  have p173 : 0 ≤ (x28_2 : Int) := of_decide_eq_true zA
  have q173 : x28_2 < (l0_2.length : Int) := of_decide_eq_true zA
  obtain ⟨ad173, e173, hx173_0, hx173_1, hx173_2, hx173_3, hx173_4⟩ := at_T62 HR0_2.out x28_2 p173 q173
  cases e173
  replace hx173_0 := zc HB hx173_0
  replace hx173_1 := zc HB hx173_1
  replace hx173_2 := zc HB hx173_2
  replace hx173_3 := zc HB hx173_3
  replace hx173_4 := zc HB hx173_4
  replace p173 := eq_true p173
  replace q173 := eq_true q173
  go_wp2_with (first | ((with_reducible refine gate_dst (N := 5) rfl ?_); (try (refine gate_guard (by rfl) ?_; dsimp only)); refine zbx 5 #[.int .i8 0, .int .i8 0, .int .i8 0, .int .i8 0, .int .i8 0] 62 ?_; intro gb174 hg w27 hbox hb; have NM174 := Aside0.mk ((by rw [hg]; exact Nat.ne_of_lt (blk_lt (g := gm) (o := .map es ck) (zh MM).out)) : gm ≠ gb174); have m0_ := zk MM hb; clear MM; have MM := m0_; clear m0_; have n_ : _ ∧ _ ∧ _ ∧ _ ∧ _ ∧ _ ∧ _ := ⟨zk BK170 hb, zbs hb, Aside0.mk (hbox), zg HB hg, zg HB hg, zn1 BK170 hg, zn2 BK170 hg⟩; clear BK170 HB; obtain ⟨BK170, HB, BK174, GW174, GE174, NB170_174, NB174_170⟩ := n_; clear hb hbox hg; have hnb28 := NB174_170.out; have hnc28 := NB170_174.out; obtain ⟨z29_0, z29_1, z29_2, z29_3, z29_4, y29_0, y29_1, y29_2, y29_3, y29_4⟩ := zB5 BK174) | ((with_reducible refine gate_callee (f := 48) rfl ?_); refine goesL_ (some 33) rfl rfl Try.func48 (by kernel_rfl) rfl #[.agg #[.int .i8 ((rd_T62 l0_2 x28_2).f0.f0), .int .i8 ((rd_T62 l0_2 x28_2).f0.f1), .int .i8 ((rd_T62 l0_2 x28_2).f1), .int .i8 ((rd_T62 l0_2 x28_2).f2), .int .i8 ((rd_T62 l0_2 x28_2).f3)]] rfl zm ?_; (with_reducible refine (impl_ValidPiece.calls ((rd_T62 l0_2 x28_2).f0.f0) ((rd_T62 l0_2 x28_2).f0.f1) ((rd_T62 l0_2 x28_2).f1) ((rd_T62 l0_2 x28_2).f2) ((rd_T62 l0_2 x28_2).f3) true _ A16.out).mono ?_); rintro e w30 ⟨rfl, hb⟩; refine ⟨_, rfl, ?_⟩; have m0_ := Aside0.mk (blk_below (g := gm) (o := .map es ck) (by (repeat (first | (with_reducible refine blk_drewN ?_ _) | (with_reducible refine blk_drew ?_) | (with_reducible refine blk_alloc ?_ _) | (refine mblk_far ?_ NM174.out _))); exact MM.out) hb); clear MM; have MM := m0_; clear m0_; have n_ : _ ∧ _ ∧ _ := ⟨zfb BK170 NB170_174 hb, Aside0.mk (blk_below (g := gb174) (o := .cells #[.int .i8 ((rd_T62 l0_2 x28_2).f0.f0), .int .i8 ((rd_T62 l0_2 x28_2).f0.f1), .int .i8 ((rd_T62 l0_2 x28_2).f1), .int .i8 ((rd_T62 l0_2 x28_2).f2), .int .i8 ((rd_T62 l0_2 x28_2).f3)] 62 (0, 0)) (zp BK174) hb), zbs hb⟩; clear BK170 BK174 HB; obtain ⟨BK170, BK174, HB⟩ := n_; (try clear hb); (try clear hb2); (try clear hk); (try clear hi); obtain ⟨z31_0, z31_1, z31_2, z31_3, z31_4, y31_0, y31_1, y31_2, y31_3, y31_4⟩ := zB5 BK174) | (go_at_call 49; (with_reducible refine (impl_Board_has.calls _ [(⟨a0_0, a0_1, l0_2⟩ : S30)] ((rd_T62 l0_2 x28_2).f0.f0) ((rd_T62 l0_2 x28_2).f0.f1) false _ ?side1 A18.out).mono ?_); (case side1 => refine ro_of_blk (T := 30) (cs := #[.int .i8 a0_0, .int .i8 a0_1, .slice (some ad173) l0_2.length c0_2]) (zh BK170).out ?_; exact k30_mk _ (⟨a0_0, a0_1, l0_2⟩ : S30) (by exact HC0_2.out) (by exact zcc HB HR0_2.out)); rintro e w32 ⟨rfl, hb⟩; have m0_ := zk MM hb; clear MM; have MM := m0_; clear m0_; have n_ : _ ∧ _ ∧ _ := ⟨zk BK170 hb, zk BK174 hb, zbs hb⟩; clear BK170 BK174 HB; obtain ⟨BK170, BK174, HB⟩ := n_; (try clear hb); (try clear hb2); (try clear hk); (try clear hi)))
  go_ret
  exact ⟨zv, zbo⟩
 subst c19
 have H1 : (if (mfind x900 ((rd_T62 l0_2 x28_2).f0.f0) ((rd_T62 l0_2 x28_2).f0.f1)).isSome = true then (some false) else (impl_ValidBoard.l0 k2 l0_2 (l0_2.length : Int) (wrap64 (x28_2 + 1)) a0_0 a0_1 l0_2 (x900 ++ [((((rd_T62 l0_2 x28_2).f0.f0), ((rd_T62 l0_2 x28_2).f0.f1)), ())]))) = some r := by rw [if_pos rfl] at H; exact H
 clear H
 have H := H1
 clear H1
 by_cases c21 : (mfind x900 ((rd_T62 l0_2 x28_2).f0.f0) ((rd_T62 l0_2 x28_2).f0.f1)).isSome = true
 ·rw [if_pos c21] at H
  obtain rfl := Option.some.inj H
  have p173 : 0 ≤ (x28_2 : Int) := of_decide_eq_true zA
  have q173 : x28_2 < (l0_2.length : Int) := of_decide_eq_true zA
  obtain ⟨ad173, e173, hx173_0, hx173_1, hx173_2, hx173_3, hx173_4⟩ := at_T62 HR0_2.out x28_2 p173 q173
  cases e173
  replace hx173_0 := zc HB hx173_0
  replace hx173_1 := zc HB hx173_1
  replace hx173_2 := zc HB hx173_2
  replace hx173_3 := zc HB hx173_3
  replace hx173_4 := zc HB hx173_4
  replace p173 := eq_true p173
  replace q173 := eq_true q173
  have ml : ∀ W : World, W.heap[gm]? = some (.map es ck) → (Instr.lookup 79 (.map (some gm)) (.agg #[.int .i8 ((rd_T62 l0_2 x28_2).f0.f0), .int .i8 ((rd_T62 l0_2 x28_2).f0.f1)]) false).run Try.prog W = .ok (.bool true) W := by
   intro W hW
   refine (run_mlook (V := 4) cellKey Try.underlying79 (zeroBool W) hW MER.out _ _ false).trans ?_
   simp only [Bool.false_eq_true, if_false]; obtain ⟨v_, hv_⟩ := Option.isSome_iff_exists.mp c21; rw [hv_]; rfl
  go_wp2_with (first | ((with_reducible refine gate_dst (N := 5) rfl ?_); (try (refine gate_guard (by rfl) ?_; dsimp only)); refine zbx 5 #[.int .i8 0, .int .i8 0, .int .i8 0, .int .i8 0, .int .i8 0] 62 ?_; intro gb174 hg w20 hbox hb; have NM174 := Aside0.mk ((by rw [hg]; exact Nat.ne_of_lt (blk_lt (g := gm) (o := .map es ck) (zh MM).out)) : gm ≠ gb174); have m0_ := zk MM hb; clear MM; have MM := m0_; clear m0_; have n_ : _ ∧ _ ∧ _ ∧ _ ∧ _ ∧ _ ∧ _ := ⟨zk BK170 hb, zbs hb, Aside0.mk (hbox), zg HB hg, zg HB hg, zn1 BK170 hg, zn2 BK170 hg⟩; clear BK170 HB; obtain ⟨BK170, HB, BK174, GW174, GE174, NB170_174, NB174_170⟩ := n_; clear hb hbox hg; have hnb21 := NB174_170.out; have hnc21 := NB170_174.out; obtain ⟨z22_0, z22_1, z22_2, z22_3, z22_4, y22_0, y22_1, y22_2, y22_3, y22_4⟩ := zB5 BK174) | ((with_reducible refine gate_callee (f := 48) rfl ?_); refine goesL_ (some 33) rfl rfl Try.func48 (by kernel_rfl) rfl #[.agg #[.int .i8 ((rd_T62 l0_2 x28_2).f0.f0), .int .i8 ((rd_T62 l0_2 x28_2).f0.f1), .int .i8 ((rd_T62 l0_2 x28_2).f1), .int .i8 ((rd_T62 l0_2 x28_2).f2), .int .i8 ((rd_T62 l0_2 x28_2).f3)]] rfl zm ?_; (with_reducible refine (impl_ValidPiece.calls ((rd_T62 l0_2 x28_2).f0.f0) ((rd_T62 l0_2 x28_2).f0.f1) ((rd_T62 l0_2 x28_2).f1) ((rd_T62 l0_2 x28_2).f2) ((rd_T62 l0_2 x28_2).f3) true _ A16.out).mono ?_); rintro e w23 ⟨rfl, hb⟩; refine ⟨_, rfl, ?_⟩; have m0_ := Aside0.mk (blk_below (g := gm) (o := .map es ck) (by (repeat (first | (with_reducible refine blk_drewN ?_ _) | (with_reducible refine blk_drew ?_) | (with_reducible refine blk_alloc ?_ _) | (refine mblk_far ?_ NM174.out _))); exact MM.out) hb); clear MM; have MM := m0_; clear m0_; have n_ : _ ∧ _ ∧ _ := ⟨zfb BK170 NB170_174 hb, Aside0.mk (blk_below (g := gb174) (o := .cells #[.int .i8 ((rd_T62 l0_2 x28_2).f0.f0), .int .i8 ((rd_T62 l0_2 x28_2).f0.f1), .int .i8 ((rd_T62 l0_2 x28_2).f1), .int .i8 ((rd_T62 l0_2 x28_2).f2), .int .i8 ((rd_T62 l0_2 x28_2).f3)] 62 (0, 0)) (zp BK174) hb), zbs hb⟩; clear BK170 BK174 HB; obtain ⟨BK170, BK174, HB⟩ := n_; (try clear hb); (try clear hb2); (try clear hk); (try clear hi); obtain ⟨z24_0, z24_1, z24_2, z24_3, z24_4, y24_0, y24_1, y24_2, y24_3, y24_4⟩ := zB5 BK174) | (go_at_call 49; (with_reducible refine (impl_Board_has.calls _ [(⟨a0_0, a0_1, l0_2⟩ : S30)] ((rd_T62 l0_2 x28_2).f0.f0) ((rd_T62 l0_2 x28_2).f0.f1) true _ ?side1 A18.out).mono ?_); (case side1 => refine ro_of_blk (T := 30) (cs := #[.int .i8 a0_0, .int .i8 a0_1, .slice (some ad173) l0_2.length c0_2]) (zh BK170).out ?_; exact k30_mk _ (⟨a0_0, a0_1, l0_2⟩ : S30) (by exact HC0_2.out) (by exact zcc HB HR0_2.out)); rintro e w25 ⟨rfl, hb⟩; have m0_ := zk MM hb; clear MM; have MM := m0_; clear m0_; have n_ : _ ∧ _ ∧ _ := ⟨zk BK170 hb, zk BK174 hb, zbs hb⟩; clear BK170 BK174 HB; obtain ⟨BK170, BK174, HB⟩ := n_; (try clear hb); (try clear hb2); (try clear hk); (try clear hi); obtain ⟨z26_0, z26_1, z26_2, z26_3, z26_4, y26_0, y26_1, y26_2, y26_3, y26_4⟩ := zB5 BK174) | ((with_reducible refine gate_dst (N := 45) rfl ?_); (try (refine gate_guard (by rfl) ?_; dsimp only)); refine look_event rfl rfl rfl rfl (ml _ (zh MM).out) ?_))
  go_ret
  exact ⟨zv, zbo⟩
 rw [if_neg c21] at H
 have H' := Aside0.mk H
 clear H
 have p173 : 0 ≤ (x28_2 : Int) := of_decide_eq_true zA
 have q173 : x28_2 < (l0_2.length : Int) := of_decide_eq_true zA
 obtain ⟨ad173, e173, hx173_0, hx173_1, hx173_2, hx173_3, hx173_4⟩ := at_T62 HR0_2.out x28_2 p173 q173
 cases e173
 replace hx173_0 := zc HB hx173_0
 replace hx173_1 := zc HB hx173_1
 replace hx173_2 := zc HB hx173_2
 replace hx173_3 := zc HB hx173_3
 replace hx173_4 := zc HB hx173_4
 replace p173 := eq_true p173
 replace q173 := eq_true q173
 have ml : ∀ W : World, W.heap[gm]? = some (.map es ck) → (Instr.lookup 79 (.map (some gm)) (.agg #[.int .i8 ((rd_T62 l0_2 x28_2).f0.f0), .int .i8 ((rd_T62 l0_2 x28_2).f0.f1)]) false).run Try.prog W = .ok (.bool false) W := by
  intro W hW
  refine (run_mlook (V := 4) cellKey Try.underlying79 (zeroBool W) hW MER.out _ _ false).trans ?_
  simp only [Bool.false_eq_true, if_false]; rw [show mfind x900 ((rd_T62 l0_2 x28_2).f0.f0) ((rd_T62 l0_2 x28_2).f0.f1) = none by simpa using c21]; rfl
 have mp : ∀ W : World, W.heap[gm]? = some (.map es ck) → (Instr.mapUpdate 79 (.map (some gm)) (.agg #[.int .i8 ((rd_T62 l0_2 x28_2).f0.f0), .int .i8 ((rd_T62 l0_2 x28_2).f0.f1)]) (.bool true)).run Try.prog W = .ok () (ChangeMaps.setBlock W gm (.map (es.push ⟨ckey ((rd_T62 l0_2 x28_2).f0.f0) ((rd_T62 l0_2 x28_2).f0.f1), .bool true, ck⟩) (ck + 1))) := fun W hW => run_mput (V := 4) (vv := fun _ : Unit => Value.bool true) cellKey Try.underlying79 hW MER.out _ _ (by simpa using c21) ()
 go_wp2_with (first | ((with_reducible refine gate_dst (N := 5) rfl ?_); (try (refine gate_guard (by rfl) ?_; dsimp only)); refine zbx 5 #[.int .i8 0, .int .i8 0, .int .i8 0, .int .i8 0, .int .i8 0] 62 ?_; intro gb174 hg w20 hbox hb; have NM174 := Aside0.mk ((by rw [hg]; exact Nat.ne_of_lt (blk_lt (g := gm) (o := .map es ck) (zh MM).out)) : gm ≠ gb174); have m0_ := zk MM hb; clear MM; have MM := m0_; clear m0_; have n_ : _ ∧ _ ∧ _ ∧ _ ∧ _ ∧ _ ∧ _ := ⟨zk BK170 hb, zbs hb, Aside0.mk (hbox), zg HB hg, zg HB hg, zn1 BK170 hg, zn2 BK170 hg⟩; clear BK170 HB; obtain ⟨BK170, HB, BK174, GW174, GE174, NB170_174, NB174_170⟩ := n_; clear hb hbox hg; have hnb21 := NB174_170.out; have hnc21 := NB170_174.out; obtain ⟨z22_0, z22_1, z22_2, z22_3, z22_4, y22_0, y22_1, y22_2, y22_3, y22_4⟩ := zB5 BK174) | ((with_reducible refine gate_callee (f := 48) rfl ?_); refine goesL_ (some 33) rfl rfl Try.func48 (by kernel_rfl) rfl #[.agg #[.int .i8 ((rd_T62 l0_2 x28_2).f0.f0), .int .i8 ((rd_T62 l0_2 x28_2).f0.f1), .int .i8 ((rd_T62 l0_2 x28_2).f1), .int .i8 ((rd_T62 l0_2 x28_2).f2), .int .i8 ((rd_T62 l0_2 x28_2).f3)]] rfl zm ?_; (with_reducible refine (impl_ValidPiece.calls ((rd_T62 l0_2 x28_2).f0.f0) ((rd_T62 l0_2 x28_2).f0.f1) ((rd_T62 l0_2 x28_2).f1) ((rd_T62 l0_2 x28_2).f2) ((rd_T62 l0_2 x28_2).f3) true _ A16.out).mono ?_); rintro e w23 ⟨rfl, hb⟩; refine ⟨_, rfl, ?_⟩; have m0_ := Aside0.mk (blk_below (g := gm) (o := .map es ck) (by (repeat (first | (with_reducible refine blk_drewN ?_ _) | (with_reducible refine blk_drew ?_) | (with_reducible refine blk_alloc ?_ _) | (refine mblk_far ?_ NM174.out _))); exact MM.out) hb); clear MM; have MM := m0_; clear m0_; have n_ : _ ∧ _ ∧ _ := ⟨zfb BK170 NB170_174 hb, Aside0.mk (blk_below (g := gb174) (o := .cells #[.int .i8 ((rd_T62 l0_2 x28_2).f0.f0), .int .i8 ((rd_T62 l0_2 x28_2).f0.f1), .int .i8 ((rd_T62 l0_2 x28_2).f1), .int .i8 ((rd_T62 l0_2 x28_2).f2), .int .i8 ((rd_T62 l0_2 x28_2).f3)] 62 (0, 0)) (zp BK174) hb), zbs hb⟩; clear BK170 BK174 HB; obtain ⟨BK170, BK174, HB⟩ := n_; (try clear hb); (try clear hb2); (try clear hk); (try clear hi); obtain ⟨z24_0, z24_1, z24_2, z24_3, z24_4, y24_0, y24_1, y24_2, y24_3, y24_4⟩ := zB5 BK174) | (go_at_call 49; (with_reducible refine (impl_Board_has.calls _ [(⟨a0_0, a0_1, l0_2⟩ : S30)] ((rd_T62 l0_2 x28_2).f0.f0) ((rd_T62 l0_2 x28_2).f0.f1) true _ ?side1 A18.out).mono ?_); (case side1 => refine ro_of_blk (T := 30) (cs := #[.int .i8 a0_0, .int .i8 a0_1, .slice (some ad173) l0_2.length c0_2]) (zh BK170).out ?_; exact k30_mk _ (⟨a0_0, a0_1, l0_2⟩ : S30) (by exact HC0_2.out) (by exact zcc HB HR0_2.out)); rintro e w25 ⟨rfl, hb⟩; have m0_ := zk MM hb; clear MM; have MM := m0_; clear m0_; have n_ : _ ∧ _ ∧ _ := ⟨zk BK170 hb, zk BK174 hb, zbs hb⟩; clear BK170 BK174 HB; obtain ⟨BK170, BK174, HB⟩ := n_; (try clear hb); (try clear hb2); (try clear hk); (try clear hi); obtain ⟨z26_0, z26_1, z26_2, z26_3, z26_4, y26_0, y26_1, y26_2, y26_3, y26_4⟩ := zB5 BK174) | ((with_reducible refine gate_dst (N := 45) rfl ?_); (try (refine gate_guard (by rfl) ?_; dsimp only)); refine look_event rfl rfl rfl rfl (ml _ (zh MM).out) ?_) | (at_mapUpdate; refine put_event rfl rfl rfl rfl rfl (mp _ (zh MM).out) (zh MM).out ?_; intro w60 hm1 hm2 hm3; have n0_ := Aside0.mk ((hm2 gb170 GMB.out).trans (zh BK170).out); have n1_ := Aside0.mk (hm3 w zbo GEM.out); clear BK170; clear BK174; clear HB; clear MM; have BK170 := n0_; have HB := n1_; have MM := Aside0.mk hm1; clear n0_ n1_ hm1 hm2 hm3))
 go_roundg k2
 case measure => have := HJ1.out; have := HK2.out; omega
 case rel => exact ⟨(wrap64 (x28_2 + 1)), (x900 ++ [((((rd_T62 l0_2 x28_2).f0.f0), ((rd_T62 l0_2 x28_2).f0.f1)), ())]), _, _, zi, H', ⟨by have := HJ1.out; have := HK2.out; omega⟩, zh BK170, zh MM, ⟨ER_push MER.out _ _ _ _⟩, zba⟩
-- NOT PRINTED: function 50 (impl_Piece_50)

def impl_Board_at_1.f (a0_0 : Int) (a0_1 : Int) (a0_2 : Int) (a0_3 : Int) (a0_4 : Int) (l1 : List (S34)) : Option (Bool) := if 0 < (l1.length : Int) then (some (a0_0 == ((rd_T34 l1 0).f0) && (a0_1 == ((rd_T34 l1 0).f1)))) else (none)
theorem impl_Board_at_1.calls (a0_0 : Int) (a0_1 : Int) (a0_2 : Int) (a0_3 : Int) (a0_4 : Int) (adp1 : Addr) (l1 : List (S34)) (r : Bool) (w : World) (hr1 : Kd.C k34 w (some adp1) l1.length l1) (h : impl_Board_at_1.f a0_0 a0_1 a0_2 a0_3 a0_4 l1 = some r) :
    Calls Try.prog 51 #[.agg #[.int .i8 a0_0, .int .i8 a0_1, .int .i8 a0_2, .int .i8 a0_3, .int .i8 a0_4], .pointer (some adp1)] w fun e w' => e = .returned (.bool r) ∧ Below w.heap.size w w' := by
 have hu62 := Try.underlying62
 have hu34 := Try.underlying34
 have HR1 := Aside0.mk hr1
 clear hr1
 have HB := Aside0.mk (Below.refl w.heap.size w)
 have H : (if 0 < (l1.length : Int) then (some (a0_0 == ((rd_T34 l1 0).f0) && (a0_1 == ((rd_T34 l1 0).f1)))) else (none)) = some r := h
 clear h
 by_cases c3 : 0 < (l1.length : Int)
 rotate_left
 ·rw [if_neg c3] at H
  exact absurd H (by simp)
 rw [if_pos c3] at H
 have c3b0 : decide (0 < (l1.length : Int)) = true := decide_eq_true c3
 have c3b1 : decide (0 < l1.length) = true := decide_eq_true (by omega)
 clear c3
 obtain rfl := Option.some.inj H
 go_enter Try.func51, Try.ntmps51
 go_wp2_with (first | ((with_reducible refine gate_dst (N := 2) rfl ?_); refine zbx 2 #[.int .i8 a0_0, .int .i8 a0_1, .int .i8 a0_2, .int .i8 a0_3, .int .i8 a0_4] 62 ?_; intro gb178 hg w4 hbox hb; have n_ : _ ∧ _ ∧ _ ∧ _ := ⟨zb HB hb, Aside0.mk (hbox), zg HB hg, zg HB hg⟩; clear HB; obtain ⟨HB, BK178, GW178, GE178⟩ := n_; clear hb hbox hg; obtain ⟨z5_0, z5_1, z5_2, z5_3, z5_4, y5_0, y5_1, y5_2, y5_3, y5_4⟩ := zB5 BK178; have p179 : 0 ≤ (0 : Int) := (by omega); have q179 : 0 < (l1.length : Int) := of_decide_eq_true zA; obtain ⟨ad179, e179, hx179_0, hx179_1⟩ := at_T34 HR1.out 0 p179 q179; obtain rfl : adp1 = ad179 := (by injection e179); have qi179 : (0 < l1.length) = True := eq_true (by omega); (try simp only [z00, Nat.zero_mul, Addr.add_zero'] at hx179_0 hx179_1); replace hx179_0 := zc HB hx179_0; replace hx179_1 := zc HB hx179_1; replace p179 := eq_true p179; replace q179 := eq_true q179))
 go_ret
 exact ⟨zv, zbo⟩
end Go.Proofs.Ytdjhcnepndflmaa.PFnExactTakePiece
