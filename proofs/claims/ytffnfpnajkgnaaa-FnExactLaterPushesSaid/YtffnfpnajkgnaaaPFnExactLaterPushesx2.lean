-- WRITTEN by xprint.py, a program of this session's. Not trusted: Lean checks it.
import Derived.Test.YtffnfpnajkgnaaaPFnExactLaterPushesx0
namespace Go.Proofs.Ytffnfpnajkgnaaa.PFnExactLaterPushes
open Go.RowKit Go.Proofs.YtffnfpnajkgnaaaW.PrintWords Go.Proofs.YtffnfpnajkgnaaaW.PrintLast Go.Proofs.YtffnfpnajkgnaaaW.PrintMore Go.Proofs.YtffnfpnajkgnaaaX
attribute [local go_sem] max2_int min2_int max_two min_two max_three min_three max_four min_four   -- for this text's walks alone
set_option linter.unusedVariables false
set_option linter.unusedSimpArgs false

/-! ### laws_markPushS: function 31 -/
mutual
def laws_markPushS.l0 : Nat → List (S120) → Int → Int → Option (Int × (List (S120)))
  | 0, _, _, _ => none
  | k + 1, x0, x1, x5 => if x5 < (x0.length : Int) then (laws_markPushS.l1 k x0 x1 x5 0) else (some (x1, x0))
def laws_markPushS.l1 : Nat → List (S120) → Int → Int → Int → Option (Int × (List (S120)))
  | 0, _, _, _, _ => none
  | k + 1, x0, x1, x5, x6 => if x6 < 2 then (if 0 ≤ x5 then (if x5 < (x0.length : Int) then (if x6 = 0 then (laws_markPushS.l1 k (x0.set (x5 : Int).toNat (⟨(⟨IntKind.i8.wrap (x1), (rd_T120 x0 x5).f0.f1⟩ : S74), (rd_T120 x0 x5).f1, (rd_T120 x0 x5).f2⟩ : S120)) (wrap64 (x1 + 1)) x5 (wrap64 (x6 + 1))) else (if x6 = 1 then (laws_markPushS.l1 k (x0.set (x5 : Int).toNat (⟨(⟨(rd_T120 x0 x5).f0.f0, IntKind.i8.wrap (x1)⟩ : S74), (rd_T120 x0 x5).f1, (rd_T120 x0 x5).f2⟩ : S120)) (wrap64 (x1 + 1)) x5 (wrap64 (x6 + 1))) else (none))) else (none)) else (none)) else (if 0 ≤ x5 then (if x5 < (x0.length : Int) then ((some (x0.set (x5 : Int).toNat (⟨(⟨(rd_T120 x0 x5).f0.f0, (rd_T120 x0 x5).f0.f1⟩ : S74), IntKind.i8.wrap (x1), (rd_T120 x0 x5).f2⟩ : S120) : List (S120))).bind fun y111 => (laws_markPushS.l0 k (y111.set (x5 : Int).toNat (⟨(⟨(rd_T120 y111 x5).f0.f0, (rd_T120 y111 x5).f0.f1⟩ : S74), (rd_T120 y111 x5).f1, IntKind.i16.wrap (wrap64 (x1 + 1))⟩ : S120)) (wrap64 ((wrap64 (x1 + 1)) + 1)) (wrap64 (x5 + 1)))) else (none)) else (none))
end
def laws_markPushS.f (k : Nat) (l0 : List (S120)) (a1 : Int) : Option (Int × (List (S120))) := laws_markPushS.l0 k l0 a1 0
theorem laws_markPushS.mono_l : ∀ k, (∀ y0 y1 y2, LeO (laws_markPushS.l0 k y0 y1 y2) (laws_markPushS.l0 (k + 1) y0 y1 y2)) ∧ (∀ y0 y1 y2 y3, LeO (laws_markPushS.l1 k y0 y1 y2 y3) (laws_markPushS.l1 (k + 1) y0 y1 y2 y3))
  | 0 => ⟨fun _ _ _ r h => by simp [laws_markPushS.l0] at h, fun _ _ _ _ r h => by simp [laws_markPushS.l1] at h⟩
  | k + 1 => by
    obtain ⟨ih0, ih1⟩ := laws_markPushS.mono_l k
    refine ⟨?_, ?_⟩
    · intro y0 y1 y2
      unfold laws_markPushS.l0
      repeat' first
      | (with_reducible exact ih0 _ _ _)
      | (with_reducible exact ih1 _ _ _ _)
      | (with_reducible exact LeO.refl _)
      | (with_reducible exact LeO.none _)
      | (with_reducible refine LeO.ite ?_ ?_)
      | (with_reducible refine LeO.bind ?_ (fun _ => ?_))
      | exact ih0 _ _ _
      | exact ih1 _ _ _ _
      | exact LeO.none _
      | refine LeO.ite ?_ ?_
      | refine LeO.bind ?_ (fun _ => ?_)
    · intro y0 y1 y2 y3
      unfold laws_markPushS.l1
      repeat' first
      | (with_reducible exact ih0 _ _ _)
      | (with_reducible exact ih1 _ _ _ _)
      | (with_reducible exact LeO.refl _)
      | (with_reducible exact LeO.none _)
      | (with_reducible refine LeO.ite ?_ ?_)
      | (with_reducible refine LeO.bind ?_ (fun _ => ?_))
      | exact ih0 _ _ _
      | exact ih1 _ _ _ _
      | exact LeO.none _
      | refine LeO.ite ?_ ?_
      | refine LeO.bind ?_ (fun _ => ?_)
theorem laws_markPushS.mono : ∀ a0 a1 k, LeO (laws_markPushS.f k a0 a1) (laws_markPushS.f (k + 1) a0 a1) := by
  intro a0 a1 k
  obtain ⟨ih0, ih1⟩ := laws_markPushS.mono_l k
  unfold laws_markPushS.f
  repeat' first
      | (with_reducible exact ih0 _ _ _)
      | (with_reducible exact ih1 _ _ _ _)
      | (with_reducible exact LeO.refl _)
      | (with_reducible exact LeO.none _)
      | (with_reducible refine LeO.ite ?_ ?_)
      | (with_reducible refine LeO.bind ?_ (fun _ => ?_))
      | exact ih0 _ _ _
      | exact ih1 _ _ _ _
      | exact LeO.none _
      | refine LeO.ite ?_ ?_
      | refine LeO.bind ?_ (fun _ => ?_)
set_option maxHeartbeats 8000000 in
set_option maxRecDepth 100000 in
theorem laws_markPushS.calls (k : Nat) (P0_ : Nat → Prop) (u9000_ : Value) (l0 : List (S120)) (a1 : Int) (r1 : Int) (r2 : List (S120)) (w0 w : World) (hB : Below w0.heap.size w0 w) (ho0 : Kd.R k120 120 w w0.heap.size P0_ u9000_ l0) (h : laws_markPushS.f k l0 a1 = some (r1, r2)) :
    Calls Try.prog 31 #[u9000_, .int .i64 a1] w fun e w' => e = .returned (.int .i64 r1) ∧ Kd.R k120 120 w' w0.heap.size (fun k_ => (P0_ k_ ∨ w.heap.size ≤ k_)) u9000_ r2 ∧ Below w0.heap.size w0 w' ∧ Kept w w' (fun k_ => P0_ k_) := by
  have HO0 := Aside0.mk (show Kd.R k120 120 w w0.heap.size (fun k_ => (P0_ k_ ∨ w.heap.size ≤ k_)) u9000_ l0 from Kd.R_mono ho0 (fun k_ hk => (.inl hk)))
  have HK := Aside0.mk (Kept.refl w (fun k_ => P0_ k_))
  have HW0 := Aside0.mk hB.size
  have HB := Aside0.mk hB
  clear hB
  have H : (laws_markPushS.l0 k l0 a1 0) = some (r1, r2) := h
  clear h
  have H' := Aside0.mk H
  clear H
  go_enter Try.func31, Try.ntmps31
  go_wp2
  go_loopg [1, 5] k (fun kq v1 v5 w' => ∃ (x0_1 : List (S120)) (x1_1 : Int) (x5_1 : Int), v1 = .int .i64 x1_1 ∧ v5 = .int .i64 x5_1 ∧ Aside0 (laws_markPushS.l0 kq x0_1 x1_1 x5_1 = some (r1, r2)) ∧ Aside0 (kq ≤ k) ∧ Aside0 (Kd.R k120 120 w' w0.heap.size (fun k_ => (P0_ k_ ∨ w.heap.size ≤ k_)) u9000_ x0_1) ∧ Aside0 (Kept w w' (fun k_ => P0_ k_)) ∧ Aside0 (Below w0.heap.size w0 w'))
  case atStart => exact ⟨(l0), (a1), (0), (by first | rfl | (simp; done) | (simp [*]; done) | (exact congrArg (Value.int .i64) (wrap_eq (by omega)))), (by first | rfl | (simp; done) | (simp [*]; done) | (exact congrArg (Value.int .i64) (wrap_eq (by omega)))), H', ⟨Nat.le_refl _⟩, ⟨by (with_reducible repeat (first | apply Kd.R_alloc | apply Kd.R_drewN | apply Kd.R_drew)); exact HO0.out⟩, ⟨by repeat (first | (with_reducible first | exact HK.out | apply Kept.alloc | apply Kept.drewN | apply Kept.drew) | exact HK.out)⟩, ⟨by repeat (first | (with_reducible first | exact HB.out | apply below_alloc | apply pw_below_drewN | apply below_drew1) | exact HB.out)⟩⟩
  case round =>
    clear H'
    try clear p2
    obtain ⟨x0_1, x1_1, x5_1, rfl, rfl, HA, HK1, HO_0, HK, HB⟩ := hrel
    cases gk with
    | zero => exact absurd HA.out (by simp [laws_markPushS.l0])
    | succ k1 =>
      have H := HA.out
      clear HA
      simp only [laws_markPushS.l0] at H
      by_cases c3 : x5_1 < (x0_1.length : Int)
      · rw [if_pos c3] at H
        have c3b0 : decide (x5_1 < (x0_1.length : Int)) = true := decide_eq_true c3
        clear c3
        have H' := Aside0.mk H
        clear H
        obtain ⟨Ao4, co4, eo4⟩ := Kd.R_slice HO_0.out
        subst eo4
        go_wp2
        go_loopg [1, 6] k1 (fun kq v1 v6 w' => ∃ (x0_2 : List (S120)) (x1_2 : Int) (x6_2 : Int), v1 = .int .i64 x1_2 ∧ v6 = .int .i64 x6_2 ∧ Aside0 (laws_markPushS.l1 kq x0_2 x1_2 x5_1 x6_2 = some (r1, r2)) ∧ Aside0 (kq ≤ k1) ∧ Aside0 (Kd.R k120 120 w' w0.heap.size (fun k_ => (P0_ k_ ∨ w.heap.size ≤ k_)) (.slice Ao4 x0_1.length co4) x0_2) ∧ Aside0 (Kept w w' (fun k_ => P0_ k_)) ∧ Aside0 (Below w0.heap.size w0 w'))
        case atStart => exact ⟨(x0_1), (x1_1), (0), (by first | rfl | (simp; done) | (simp [*]; done) | (exact congrArg (Value.int .i64) (wrap_eq (by omega)))), (by first | rfl | (simp; done) | (simp [*]; done) | (exact congrArg (Value.int .i64) (wrap_eq (by omega)))), H', ⟨Nat.le_refl _⟩, ⟨by (with_reducible repeat (first | apply Kd.R_alloc | apply Kd.R_drewN | apply Kd.R_drew)); exact HO_0.out⟩, ⟨by repeat (first | (with_reducible first | exact HK.out | apply Kept.alloc | apply Kept.drewN | apply Kept.drew) | exact HK.out)⟩, ⟨by repeat (first | (with_reducible first | exact HB.out | apply below_alloc | apply pw_below_drewN | apply below_drew1) | exact HB.out)⟩⟩
        case round =>
          clear H'
          try clear p2
          try clear c3
          try clear c3b0
          try clear p2
          obtain ⟨x0_2, x1_2, x6_2, rfl, rfl, HA, HK2, HO_0, HK, HB⟩ := hrel
          have hl0_2 := (Kd.R_reads' HO_0.out).1
          rw [hl0_2] at HO_0
          (try simp only [hl0_2])
          cases gk with
          | zero => exact absurd HA.out (by simp [laws_markPushS.l1])
          | succ k2 =>
            have H := HA.out
            clear HA
            simp only [laws_markPushS.l1] at H
            by_cases c5 : x6_2 < 2
            · rw [if_pos c5] at H
              have c5b0 : decide (x6_2 < 2) = true := decide_eq_true c5
              clear c5
              by_cases c6 : 0 ≤ x5_1
              · rw [if_pos c6] at H
                have c6b0 : decide (0 ≤ x5_1) = true := decide_eq_true c6
                clear c6
                by_cases c7 : x5_1 < (x0_2.length : Int)
                · rw [if_pos c7] at H
                  have c7b0 : decide (x5_1 < (x0_2.length : Int)) = true := decide_eq_true c7
                  clear c7
                  by_cases c9 : x6_2 = 0
                  · rw [if_pos c9] at H
                    have Ac9 : Aside0 (x6_2 = 0) := ⟨c9⟩
                    clear c9
                    have ar10e : x6_2 = 0 := by first | exact (show Aside0 (x6_2 = 0) by assumption).out | exact beq_iff_eq.mp (by assumption) | omega
                    have ar10n : (x6_2).toNat = 0 := by rw [ar10e]; rfl
                    have ar10l : decide (0 ≤ x6_2) = true := decide_eq_true (by omega)
                    have ar10L := eq_true (of_decide_eq_true ar10l)
                    have ar10h : decide (x6_2 < 2) = true := decide_eq_true (by omega)
                    have ar10H := eq_true (of_decide_eq_true ar10h)
                    clear ar10e
                    obtain ⟨y109, hy109⟩ : ∃ y_ : List (S120), y_ = (x0_2.set (x5_1 : Int).toNat (⟨(⟨IntKind.i8.wrap (x1_2), (rd_T120 x0_2 x5_1).f0.f1⟩ : S74), (rd_T120 x0_2 x5_1).f1, (rd_T120 x0_2 x5_1).f2⟩ : S120)) := ⟨_, rfl⟩
                    replace H : (laws_markPushS.l1 k2 y109 (wrap64 (x1_2 + 1)) x5_1 (wrap64 (x6_2 + 1))) = some (r1, r2) := by first | (rw [hy109]; with_reducible exact H) | (have H2_ := (Option.bind_some _ _).symm.trans H; rw [hy109]; with_reducible exact H2_) | (have H2_ := (Option.bind_some _ _).symm.trans H; with_reducible exact H2_) | with_reducible exact H | (rw [hy109]; exact H) | exact H
                    have Ny109 := Aside0.mk hy109
                    clear hy109
                    have H' := Aside0.mk H
                    clear H
                    have p8 : 0 ≤ (x5_1 : Int) := of_decide_eq_true (by first | (with_reducible assumption) | assumption)
                    have q8 : (x5_1 : Int) < ((x0_2.length : Int) : Int) := of_decide_eq_true (by first | (with_reducible assumption) | assumption)
                    obtain ⟨go8, co8, eo8, gb8, gl8, cl8, HG8⟩ := Kd.R_form HO_0.out (by omega)
                    (first | cases eo8 | (injection eo8 with ea_ en_ ec_; (first | subst ea_ | (injection ea_ with ea_; subst ea_)); subst ec_; clear en_))
                    have GB8 := Aside0.mk gb8
                    have GG8 := Aside0.mk HG8
                    clear gb8 gl8 HG8
                    have HMgo8 := Aside0.mk (show (P0_ go8 ∨ w.heap.size ≤ go8) from (HO_0.out.1 _ rfl))
                    obtain ⟨ce8, hcl8, hM8, hcc8, hfr8⟩ := Kd.R_elem HO_0.out z120 (x5_1 : Int) p8 q8
                    obtain rfl := k120_openM hM8
                    have hx8_0 : wr.cell? ⟨go8, (x5_1 : Int).toNat * 4, none⟩ = some (.int .i8 ((rd_T120 x0_2 x5_1).f0.f0)) := hcc8 0 _ rfl
                    have hx8_1 : wr.cell? ⟨go8, (x5_1 : Int).toNat * 4 + 1, none⟩ = some (.int .i8 ((rd_T120 x0_2 x5_1).f0.f1)) := hcc8 1 _ rfl
                    have hx8_2 : wr.cell? ⟨go8, (x5_1 : Int).toNat * 4 + 2, none⟩ = some (.int .i8 ((rd_T120 x0_2 x5_1).f1)) := hcc8 2 _ rfl
                    have hx8_3 : wr.cell? ⟨go8, (x5_1 : Int).toNat * 4 + 3, none⟩ = some (.int .i16 ((rd_T120 x0_2 x5_1).f2)) := hcc8 3 _ rfl
                    have hf8_0 : wr.frozen? ⟨go8, (x5_1 : Int).toNat * 4, none⟩ = false := hfr8 0
                    have hf8_1 : wr.frozen? ⟨go8, (x5_1 : Int).toNat * 4 + 1, none⟩ = false := hfr8 1
                    have hf8_2 : wr.frozen? ⟨go8, (x5_1 : Int).toNat * 4 + 2, none⟩ = false := hfr8 2
                    have hf8_3 : wr.frozen? ⟨go8, (x5_1 : Int).toNat * 4 + 3, none⟩ = false := hfr8 3
                    clear hcl8 hcc8 hfr8 hM8
                    replace p8 := eq_true p8
                    replace q8 := eq_true q8
                    have HX11 := Aside0.mk (show Kd.R k120 120 wr w0.heap.size (fun k_ => (P0_ k_ ∨ w.heap.size ≤ k_)) (.slice (some ⟨go8, 0, none⟩) x0_2.length co4) x0_2 from (by (with_reducible repeat (first | apply Kd.R_alloc | apply Kd.R_drewN | apply Kd.R_drew)); exact HO_0.out))
                    obtain ⟨ce11, hcl11, hM11, hcc11, hfr11⟩ := Kd.R_elem HX11.out z120 (x5_1 : Int) (of_decide_eq_true (by first | (with_reducible assumption) | assumption)) (by have h_ : (x5_1 : Int) < ((x0_2.length : Int) : Int) := of_decide_eq_true (by first | (with_reducible assumption) | assumption); first | exact h_ | (have e_ := (Kd.R_reads' HO_0.out).1; omega) | simpa using h_)
                    obtain rfl := k120_openM hM11
                    have HP11 := Kd.R_seg HX11.out (x5_1 : Int) (of_decide_eq_true (by first | (with_reducible assumption) | assumption)) (by have h_ : (x5_1 : Int) < ((x0_2.length : Int) : Int) := of_decide_eq_true (by first | (with_reducible assumption) | assumption); first | exact h_ | (have e_ := (Kd.R_reads' HO_0.out).1; omega) | simpa using h_) (seg := [.int .i8 (IntKind.i8.wrap (x1_2))]) (j := 0) hcl11 hcc11 (show 1 ≤ 4 from by decide) (x' := (⟨(⟨IntKind.i8.wrap (x1_2), (rd_T120 x0_2 x5_1).f0.f1⟩ : S74), (rd_T120 x0_2 x5_1).f1, (rd_T120 x0_2 x5_1).f2⟩ : S120)) (k120_mkM _ _ _ (⟨(⟨IntKind.i8.wrap (x1_2), (rd_T120 x0_2 x5_1).f0.f1⟩ : S74), (rd_T120 x0_2 x5_1).f1, (rd_T120 x0_2 x5_1).f2⟩ : S120) ) (fun _ hk => hk)
                    have hx11_0 := hcc11 0 _ rfl
                    (try simp only [show (k120).sz = 4 from rfl, Nat.mul_one, Nat.add_zero] at hx11_0)
                    have hf11_0 := hfr11 0
                    (try simp only [show (k120).sz = 4 from rfl, Nat.mul_one, Nat.add_zero] at hf11_0)
                    clear hcl11 hcc11 hfr11 hM11
                    go_wp2_with (first | ((with_reducible refine gate_store (t := 22) (p := 24) rfl ?_); refine store_event (t := 22) (p := 24) (v := ?vo_w12) (w1 := (wr.setCell ⟨go8, (x5_1 : Int).toNat * 4, none⟩ (.int .i8 (IntKind.i8.wrap (x1_2))))) ?hg ?ho ?hn ?hr ?_; (case ho => rfl); (case hg => rfl); (case hn => rfl); (case hr => first | (go_simp; done) | (go_simp; rfl)); intro w12 hw; have hg : wr.grownBy w12 (some go8) := (by rw [hw]; exact HP11.2); have hp_ : Kd.R k120 120 w12 w0.heap.size (fun k_ => (P0_ k_ ∨ w.heap.size ≤ k_)) (.slice (some ⟨go8, 0, none⟩) x0_2.length co4) y109 := (by rw [hw, Ny109.out]; exact HP11.1); clear HP11; have n0_ := Aside0.mk (hp_); have n1_ := Aside0.mk ((by rw [hw]; exact below_set (HB.out) GB8.out : Below w0.heap.size w0 w12)); have n2_ := Aside0.mk (Kept.of_grown (S := (fun k_ => P0_ k_)) hg (by repeat (first | (with_reducible first | exact HK.out | apply Kept.alloc | apply Kept.drewN | apply Kept.drew) | exact HK.out)) (fun k_ e_ => (HO_0.out.1 k_ e_))); clear HO_0; clear HB; clear HK; have HO_0 := n0_; have HB := n1_; have HK := n2_; clear n0_ n1_ n2_; clear hg hw hp_))
                    (try simp only [← hl0_2])
                    go_roundg k2
                    case measure => have := HK1.out; have := HK2.out; omega
                    case rel => exact ⟨(y109), (wrap64 (x1_2 + 1)), (wrap64 (x6_2 + 1)), (by first | rfl | (simp; done) | (simp [*]; done) | (exact congrArg (Value.int .i64) (wrap_eq (by omega)))), (by first | rfl | (simp; done) | (simp [*]; done) | (exact congrArg (Value.int .i64) (wrap_eq (by omega)))), H', ⟨by have := HK1.out; have := HK2.out; omega⟩, ⟨by (try simp only [hl0_2]); (with_reducible repeat (first | apply Kd.R_alloc | apply Kd.R_drewN | apply Kd.R_drew)); exact HO_0.out⟩, ⟨by repeat (first | (with_reducible first | exact HK.out | apply Kept.alloc | apply Kept.drewN | apply Kept.drew) | exact HK.out)⟩, ⟨by repeat (first | (with_reducible first | exact HB.out | apply below_alloc | apply pw_below_drewN | apply below_drew1) | exact HB.out)⟩⟩
                  · rw [if_neg c9] at H
                    clear c9
                    by_cases c13 : x6_2 = 1
                    · rw [if_pos c13] at H
                      have Ac13 : Aside0 (x6_2 = 1) := ⟨c13⟩
                      clear c13
                      have ar14e : x6_2 = 1 := by first | exact (show Aside0 (x6_2 = 1) by assumption).out | exact beq_iff_eq.mp (by assumption) | omega
                      have ar14n : (x6_2).toNat = 1 := by rw [ar14e]; rfl
                      have ar14l : decide (0 ≤ x6_2) = true := decide_eq_true (by omega)
                      have ar14L := eq_true (of_decide_eq_true ar14l)
                      have ar14h : decide (x6_2 < 2) = true := decide_eq_true (by omega)
                      have ar14H := eq_true (of_decide_eq_true ar14h)
                      clear ar14e
                      obtain ⟨y110, hy110⟩ : ∃ y_ : List (S120), y_ = (x0_2.set (x5_1 : Int).toNat (⟨(⟨(rd_T120 x0_2 x5_1).f0.f0, IntKind.i8.wrap (x1_2)⟩ : S74), (rd_T120 x0_2 x5_1).f1, (rd_T120 x0_2 x5_1).f2⟩ : S120)) := ⟨_, rfl⟩
                      replace H : (laws_markPushS.l1 k2 y110 (wrap64 (x1_2 + 1)) x5_1 (wrap64 (x6_2 + 1))) = some (r1, r2) := by first | (rw [hy110]; with_reducible exact H) | (have H2_ := (Option.bind_some _ _).symm.trans H; rw [hy110]; with_reducible exact H2_) | (have H2_ := (Option.bind_some _ _).symm.trans H; with_reducible exact H2_) | with_reducible exact H | (rw [hy110]; exact H) | exact H
                      have Ny110 := Aside0.mk hy110
                      clear hy110
                      have H' := Aside0.mk H
                      clear H
                      have p8 : 0 ≤ (x5_1 : Int) := of_decide_eq_true (by first | (with_reducible assumption) | assumption)
                      have q8 : (x5_1 : Int) < ((x0_2.length : Int) : Int) := of_decide_eq_true (by first | (with_reducible assumption) | assumption)
                      obtain ⟨go8, co8, eo8, gb8, gl8, cl8, HG8⟩ := Kd.R_form HO_0.out (by omega)
                      (first | cases eo8 | (injection eo8 with ea_ en_ ec_; (first | subst ea_ | (injection ea_ with ea_; subst ea_)); subst ec_; clear en_))
                      have GB8 := Aside0.mk gb8
                      have GG8 := Aside0.mk HG8
                      clear gb8 gl8 HG8
                      have HMgo8 := Aside0.mk (show (P0_ go8 ∨ w.heap.size ≤ go8) from (HO_0.out.1 _ rfl))
                      obtain ⟨ce8, hcl8, hM8, hcc8, hfr8⟩ := Kd.R_elem HO_0.out z120 (x5_1 : Int) p8 q8
                      obtain rfl := k120_openM hM8
                      have hx8_0 : wr.cell? ⟨go8, (x5_1 : Int).toNat * 4, none⟩ = some (.int .i8 ((rd_T120 x0_2 x5_1).f0.f0)) := hcc8 0 _ rfl
                      have hx8_1 : wr.cell? ⟨go8, (x5_1 : Int).toNat * 4 + 1, none⟩ = some (.int .i8 ((rd_T120 x0_2 x5_1).f0.f1)) := hcc8 1 _ rfl
                      have hx8_2 : wr.cell? ⟨go8, (x5_1 : Int).toNat * 4 + 2, none⟩ = some (.int .i8 ((rd_T120 x0_2 x5_1).f1)) := hcc8 2 _ rfl
                      have hx8_3 : wr.cell? ⟨go8, (x5_1 : Int).toNat * 4 + 3, none⟩ = some (.int .i16 ((rd_T120 x0_2 x5_1).f2)) := hcc8 3 _ rfl
                      have hf8_0 : wr.frozen? ⟨go8, (x5_1 : Int).toNat * 4, none⟩ = false := hfr8 0
                      have hf8_1 : wr.frozen? ⟨go8, (x5_1 : Int).toNat * 4 + 1, none⟩ = false := hfr8 1
                      have hf8_2 : wr.frozen? ⟨go8, (x5_1 : Int).toNat * 4 + 2, none⟩ = false := hfr8 2
                      have hf8_3 : wr.frozen? ⟨go8, (x5_1 : Int).toNat * 4 + 3, none⟩ = false := hfr8 3
                      clear hcl8 hcc8 hfr8 hM8
                      replace p8 := eq_true p8
                      replace q8 := eq_true q8
                      have HX15 := Aside0.mk (show Kd.R k120 120 wr w0.heap.size (fun k_ => (P0_ k_ ∨ w.heap.size ≤ k_)) (.slice (some ⟨go8, 0, none⟩) x0_2.length co4) x0_2 from (by (with_reducible repeat (first | apply Kd.R_alloc | apply Kd.R_drewN | apply Kd.R_drew)); exact HO_0.out))
                      obtain ⟨ce15, hcl15, hM15, hcc15, hfr15⟩ := Kd.R_elem HX15.out z120 (x5_1 : Int) (of_decide_eq_true (by first | (with_reducible assumption) | assumption)) (by have h_ : (x5_1 : Int) < ((x0_2.length : Int) : Int) := of_decide_eq_true (by first | (with_reducible assumption) | assumption); first | exact h_ | (have e_ := (Kd.R_reads' HO_0.out).1; omega) | simpa using h_)
                      obtain rfl := k120_openM hM15
                      have HP15 := Kd.R_seg HX15.out (x5_1 : Int) (of_decide_eq_true (by first | (with_reducible assumption) | assumption)) (by have h_ : (x5_1 : Int) < ((x0_2.length : Int) : Int) := of_decide_eq_true (by first | (with_reducible assumption) | assumption); first | exact h_ | (have e_ := (Kd.R_reads' HO_0.out).1; omega) | simpa using h_) (seg := [.int .i8 (IntKind.i8.wrap (x1_2))]) (j := 1) hcl15 hcc15 (show 2 ≤ 4 from by decide) (x' := (⟨(⟨(rd_T120 x0_2 x5_1).f0.f0, IntKind.i8.wrap (x1_2)⟩ : S74), (rd_T120 x0_2 x5_1).f1, (rd_T120 x0_2 x5_1).f2⟩ : S120)) (k120_mkM _ _ _ (⟨(⟨(rd_T120 x0_2 x5_1).f0.f0, IntKind.i8.wrap (x1_2)⟩ : S74), (rd_T120 x0_2 x5_1).f1, (rd_T120 x0_2 x5_1).f2⟩ : S120) ) (fun _ hk => hk)
                      have hx15_1 := hcc15 1 _ rfl
                      (try simp only [show (k120).sz = 4 from rfl, Nat.mul_one, Nat.add_zero] at hx15_1)
                      have hf15_1 := hfr15 1
                      (try simp only [show (k120).sz = 4 from rfl, Nat.mul_one, Nat.add_zero] at hf15_1)
                      clear hcl15 hcc15 hfr15 hM15
                      go_wp2_with (first | ((with_reducible refine gate_store (t := 22) (p := 24) rfl ?_); refine store_event (t := 22) (p := 24) (v := ?vo_w16) (w1 := (wr.setCell ⟨go8, (x5_1 : Int).toNat * 4 + 1, none⟩ (.int .i8 (IntKind.i8.wrap (x1_2))))) ?hg ?ho ?hn ?hr ?_; (case ho => rfl); (case hg => rfl); (case hn => rfl); (case hr => first | (go_simp; done) | (go_simp; rfl)); intro w16 hw; have hg : wr.grownBy w16 (some go8) := (by rw [hw]; exact HP15.2); have hp_ : Kd.R k120 120 w16 w0.heap.size (fun k_ => (P0_ k_ ∨ w.heap.size ≤ k_)) (.slice (some ⟨go8, 0, none⟩) x0_2.length co4) y110 := (by rw [hw, Ny110.out]; exact HP15.1); clear HP15; have n0_ := Aside0.mk (hp_); have n1_ := Aside0.mk ((by rw [hw]; exact below_set (HB.out) GB8.out : Below w0.heap.size w0 w16)); have n2_ := Aside0.mk (Kept.of_grown (S := (fun k_ => P0_ k_)) hg (by repeat (first | (with_reducible first | exact HK.out | apply Kept.alloc | apply Kept.drewN | apply Kept.drew) | exact HK.out)) (fun k_ e_ => (HO_0.out.1 k_ e_))); clear HO_0; clear HB; clear HK; have HO_0 := n0_; have HB := n1_; have HK := n2_; clear n0_ n1_ n2_; clear hg hw hp_))
                      (try simp only [← hl0_2])
                      go_roundg k2
                      case measure => have := HK1.out; have := HK2.out; omega
                      case rel => exact ⟨(y110), (wrap64 (x1_2 + 1)), (wrap64 (x6_2 + 1)), (by first | rfl | (simp; done) | (simp [*]; done) | (exact congrArg (Value.int .i64) (wrap_eq (by omega)))), (by first | rfl | (simp; done) | (simp [*]; done) | (exact congrArg (Value.int .i64) (wrap_eq (by omega)))), H', ⟨by have := HK1.out; have := HK2.out; omega⟩, ⟨by (try simp only [hl0_2]); (with_reducible repeat (first | apply Kd.R_alloc | apply Kd.R_drewN | apply Kd.R_drew)); exact HO_0.out⟩, ⟨by repeat (first | (with_reducible first | exact HK.out | apply Kept.alloc | apply Kept.drewN | apply Kept.drew) | exact HK.out)⟩, ⟨by repeat (first | (with_reducible first | exact HB.out | apply below_alloc | apply pw_below_drewN | apply below_drew1) | exact HB.out)⟩⟩
                    · rw [if_neg c13] at H
                      exact absurd H (by simp)
                · rw [if_neg c7] at H
                  exact absurd H (by simp)
              · rw [if_neg c6] at H
                exact absurd H (by simp)
            · rw [if_neg c5] at H
              have c5b0 : decide (x6_2 < 2) = false := decide_eq_false c5
              clear c5
              by_cases c17 : 0 ≤ x5_1
              · rw [if_pos c17] at H
                have c17b0 : decide (0 ≤ x5_1) = true := decide_eq_true c17
                clear c17
                by_cases c18 : x5_1 < (x0_2.length : Int)
                · rw [if_pos c18] at H
                  have c18b0 : decide (x5_1 < (x0_2.length : Int)) = true := decide_eq_true c18
                  clear c18
                  obtain ⟨y111, hy111⟩ : ∃ y_ : List (S120), y_ = (x0_2.set (x5_1 : Int).toNat (⟨(⟨(rd_T120 x0_2 x5_1).f0.f0, (rd_T120 x0_2 x5_1).f0.f1⟩ : S74), IntKind.i8.wrap (x1_2), (rd_T120 x0_2 x5_1).f2⟩ : S120)) := ⟨_, rfl⟩
                  replace H : (laws_markPushS.l0 k2 (y111.set (x5_1 : Int).toNat (⟨(⟨(rd_T120 y111 x5_1).f0.f0, (rd_T120 y111 x5_1).f0.f1⟩ : S74), (rd_T120 y111 x5_1).f1, IntKind.i16.wrap (wrap64 (x1_2 + 1))⟩ : S120)) (wrap64 ((wrap64 (x1_2 + 1)) + 1)) (wrap64 (x5_1 + 1))) = some (r1, r2) := by first | (rw [hy111]; with_reducible exact H) | (have H2_ := (Option.bind_some _ _).symm.trans H; rw [hy111]; with_reducible exact H2_) | (have H2_ := (Option.bind_some _ _).symm.trans H; with_reducible exact H2_) | with_reducible exact H | (rw [hy111]; exact H) | exact H
                  have Ny111 := Aside0.mk hy111
                  clear hy111
                  obtain ⟨y112, hy112⟩ : ∃ y_ : List (S120), y_ = (y111.set (x5_1 : Int).toNat (⟨(⟨(rd_T120 y111 x5_1).f0.f0, (rd_T120 y111 x5_1).f0.f1⟩ : S74), (rd_T120 y111 x5_1).f1, IntKind.i16.wrap (wrap64 (x1_2 + 1))⟩ : S120)) := ⟨_, rfl⟩
                  replace H : (laws_markPushS.l0 k2 y112 (wrap64 ((wrap64 (x1_2 + 1)) + 1)) (wrap64 (x5_1 + 1))) = some (r1, r2) := by first | (rw [hy112]; with_reducible exact H) | (have H2_ := (Option.bind_some _ _).symm.trans H; rw [hy112]; with_reducible exact H2_) | (have H2_ := (Option.bind_some _ _).symm.trans H; with_reducible exact H2_) | with_reducible exact H | (rw [hy112]; exact H) | exact H
                  have Ny112 := Aside0.mk hy112
                  clear hy112
                  have H' := Aside0.mk H
                  clear H
                  have p19 : 0 ≤ (x5_1 : Int) := of_decide_eq_true (by first | (with_reducible assumption) | assumption)
                  have q19 : (x5_1 : Int) < ((x0_2.length : Int) : Int) := of_decide_eq_true (by first | (with_reducible assumption) | assumption)
                  obtain ⟨go19, co19, eo19, gb19, gl19, cl19, HG19⟩ := Kd.R_form HO_0.out (by omega)
                  (first | cases eo19 | (injection eo19 with ea_ en_ ec_; (first | subst ea_ | (injection ea_ with ea_; subst ea_)); subst ec_; clear en_))
                  have GB19 := Aside0.mk gb19
                  have GG19 := Aside0.mk HG19
                  clear gb19 gl19 HG19
                  have HMgo19 := Aside0.mk (show (P0_ go19 ∨ w.heap.size ≤ go19) from (HO_0.out.1 _ rfl))
                  obtain ⟨ce19, hcl19, hM19, hcc19, hfr19⟩ := Kd.R_elem HO_0.out z120 (x5_1 : Int) p19 q19
                  obtain rfl := k120_openM hM19
                  have hx19_0 : wr.cell? ⟨go19, (x5_1 : Int).toNat * 4, none⟩ = some (.int .i8 ((rd_T120 x0_2 x5_1).f0.f0)) := hcc19 0 _ rfl
                  have hx19_1 : wr.cell? ⟨go19, (x5_1 : Int).toNat * 4 + 1, none⟩ = some (.int .i8 ((rd_T120 x0_2 x5_1).f0.f1)) := hcc19 1 _ rfl
                  have hx19_2 : wr.cell? ⟨go19, (x5_1 : Int).toNat * 4 + 2, none⟩ = some (.int .i8 ((rd_T120 x0_2 x5_1).f1)) := hcc19 2 _ rfl
                  have hx19_3 : wr.cell? ⟨go19, (x5_1 : Int).toNat * 4 + 3, none⟩ = some (.int .i16 ((rd_T120 x0_2 x5_1).f2)) := hcc19 3 _ rfl
                  have hf19_0 : wr.frozen? ⟨go19, (x5_1 : Int).toNat * 4, none⟩ = false := hfr19 0
                  have hf19_1 : wr.frozen? ⟨go19, (x5_1 : Int).toNat * 4 + 1, none⟩ = false := hfr19 1
                  have hf19_2 : wr.frozen? ⟨go19, (x5_1 : Int).toNat * 4 + 2, none⟩ = false := hfr19 2
                  have hf19_3 : wr.frozen? ⟨go19, (x5_1 : Int).toNat * 4 + 3, none⟩ = false := hfr19 3
                  clear hcl19 hcc19 hfr19 hM19
                  replace p19 := eq_true p19
                  replace q19 := eq_true q19
                  have HX21 := Aside0.mk (show Kd.R k120 120 wr w0.heap.size (fun k_ => (P0_ k_ ∨ w.heap.size ≤ k_)) (.slice (some ⟨go19, 0, none⟩) x0_2.length co4) x0_2 from (by (with_reducible repeat (first | apply Kd.R_alloc | apply Kd.R_drewN | apply Kd.R_drew)); exact HO_0.out))
                  obtain ⟨ce21, hcl21, hM21, hcc21, hfr21⟩ := Kd.R_elem HX21.out z120 (x5_1 : Int) (of_decide_eq_true (by first | (with_reducible assumption) | assumption)) (by have h_ : (x5_1 : Int) < ((x0_2.length : Int) : Int) := of_decide_eq_true (by first | (with_reducible assumption) | assumption); first | exact h_ | (have e_ := (Kd.R_reads' HO_0.out).1; omega) | simpa using h_)
                  obtain rfl := k120_openM hM21
                  have HP21 := Kd.R_seg HX21.out (x5_1 : Int) (of_decide_eq_true (by first | (with_reducible assumption) | assumption)) (by have h_ : (x5_1 : Int) < ((x0_2.length : Int) : Int) := of_decide_eq_true (by first | (with_reducible assumption) | assumption); first | exact h_ | (have e_ := (Kd.R_reads' HO_0.out).1; omega) | simpa using h_) (seg := [.int .i8 (IntKind.i8.wrap (x1_2))]) (j := 2) hcl21 hcc21 (show 3 ≤ 4 from by decide) (x' := (⟨(⟨(rd_T120 x0_2 x5_1).f0.f0, (rd_T120 x0_2 x5_1).f0.f1⟩ : S74), IntKind.i8.wrap (x1_2), (rd_T120 x0_2 x5_1).f2⟩ : S120)) (k120_mkM _ _ _ (⟨(⟨(rd_T120 x0_2 x5_1).f0.f0, (rd_T120 x0_2 x5_1).f0.f1⟩ : S74), IntKind.i8.wrap (x1_2), (rd_T120 x0_2 x5_1).f2⟩ : S120) ) (fun _ hk => hk)
                  have hx21_2 := hcc21 2 _ rfl
                  (try simp only [show (k120).sz = 4 from rfl, Nat.mul_one, Nat.add_zero] at hx21_2)
                  have hf21_2 := hfr21 2
                  (try simp only [show (k120).sz = 4 from rfl, Nat.mul_one, Nat.add_zero] at hf21_2)
                  clear hcl21 hcc21 hfr21 hM21
                  go_wp2_with (first | ((with_reducible refine gate_store (t := 22) (p := 32) rfl ?_); refine store_event (t := 22) (p := 32) (v := ?vo_w22) (w1 := (wr.setCell ⟨go19, (x5_1 : Int).toNat * 4 + 2, none⟩ (.int .i8 (IntKind.i8.wrap (x1_2))))) ?hg ?ho ?hn ?hr ?_; (case ho => rfl); (case hg => rfl); (case hn => rfl); (case hr => first | (go_simp; done) | (go_simp; rfl)); intro w22 hw; have hg : wr.grownBy w22 (some go19) := (by rw [hw]; exact HP21.2); have hp_ : Kd.R k120 120 w22 w0.heap.size (fun k_ => (P0_ k_ ∨ w.heap.size ≤ k_)) (.slice (some ⟨go19, 0, none⟩) x0_2.length co4) y111 := (by rw [hw, Ny111.out]; exact HP21.1); clear HP21; have n0_ := Aside0.mk (hp_); have n1_ := Aside0.mk ((by rw [hw]; exact below_set (HB.out) GB19.out : Below w0.heap.size w0 w22)); have n2_ := Aside0.mk (Kept.of_grown (S := (fun k_ => P0_ k_)) hg (by repeat (first | (with_reducible first | exact HK.out | apply Kept.alloc | apply Kept.drewN | apply Kept.drew) | exact HK.out)) (fun k_ e_ => (HO_0.out.1 k_ e_))); clear HO_0; clear HB; clear HK; have HO_0 := n0_; have HB := n1_; have HK := n2_; clear n0_ n1_ n2_; clear hg hw hp_; have p20 : 0 ≤ (x5_1 : Int) := of_decide_eq_true (by first | (with_reducible assumption) | assumption); have q20 : (x5_1 : Int) < ((x0_2.length : Int) : Int) := of_decide_eq_true (by first | (with_reducible assumption) | assumption); obtain ⟨ce20, hcl20, hM20, hcc20, hfr20⟩ := Kd.R_elem HO_0.out z120 (x5_1 : Int) p20 q20; obtain rfl := k120_openM hM20; have hx20_0 : w22.cell? ⟨go19, (x5_1 : Int).toNat * 4, none⟩ = some (.int .i8 ((rd_T120 y111 x5_1).f0.f0)) := hcc20 0 _ rfl; have hx20_1 : w22.cell? ⟨go19, (x5_1 : Int).toNat * 4 + 1, none⟩ = some (.int .i8 ((rd_T120 y111 x5_1).f0.f1)) := hcc20 1 _ rfl; have hx20_2 : w22.cell? ⟨go19, (x5_1 : Int).toNat * 4 + 2, none⟩ = some (.int .i8 ((rd_T120 y111 x5_1).f1)) := hcc20 2 _ rfl; have hx20_3 : w22.cell? ⟨go19, (x5_1 : Int).toNat * 4 + 3, none⟩ = some (.int .i16 ((rd_T120 y111 x5_1).f2)) := hcc20 3 _ rfl; have hf20_0 : w22.frozen? ⟨go19, (x5_1 : Int).toNat * 4, none⟩ = false := hfr20 0; have hf20_1 : w22.frozen? ⟨go19, (x5_1 : Int).toNat * 4 + 1, none⟩ = false := hfr20 1; have hf20_2 : w22.frozen? ⟨go19, (x5_1 : Int).toNat * 4 + 2, none⟩ = false := hfr20 2; have hf20_3 : w22.frozen? ⟨go19, (x5_1 : Int).toNat * 4 + 3, none⟩ = false := hfr20 3; clear hcl20 hcc20 hfr20 hM20; replace p20 := eq_true p20; replace q20 := eq_true q20; have HX23 := Aside0.mk (show Kd.R k120 120 w22 w0.heap.size (fun k_ => (P0_ k_ ∨ w.heap.size ≤ k_)) (.slice (some ⟨go19, 0, none⟩) x0_2.length co4) y111 from (by (with_reducible repeat (first | apply Kd.R_alloc | apply Kd.R_drewN | apply Kd.R_drew)); exact HO_0.out)); obtain ⟨ce23, hcl23, hM23, hcc23, hfr23⟩ := Kd.R_elem HX23.out z120 (x5_1 : Int) (of_decide_eq_true (by first | (with_reducible assumption) | assumption)) (by have h_ : (x5_1 : Int) < ((x0_2.length : Int) : Int) := of_decide_eq_true (by first | (with_reducible assumption) | assumption); first | exact h_ | (have e_ := (Kd.R_reads' HO_0.out).1; omega) | simpa using h_); obtain rfl := k120_openM hM23; have HP23 := Kd.R_seg HX23.out (x5_1 : Int) (of_decide_eq_true (by first | (with_reducible assumption) | assumption)) (by have h_ : (x5_1 : Int) < ((x0_2.length : Int) : Int) := of_decide_eq_true (by first | (with_reducible assumption) | assumption); first | exact h_ | (have e_ := (Kd.R_reads' HO_0.out).1; omega) | simpa using h_) (seg := [.int .i16 (IntKind.i16.wrap (wrap64 (x1_2 + 1)))]) (j := 3) hcl23 hcc23 (show 4 ≤ 4 from by decide) (x' := (⟨(⟨(rd_T120 y111 x5_1).f0.f0, (rd_T120 y111 x5_1).f0.f1⟩ : S74), (rd_T120 y111 x5_1).f1, IntKind.i16.wrap (wrap64 (x1_2 + 1))⟩ : S120)) (k120_mkM _ _ _ (⟨(⟨(rd_T120 y111 x5_1).f0.f0, (rd_T120 y111 x5_1).f0.f1⟩ : S74), (rd_T120 y111 x5_1).f1, IntKind.i16.wrap (wrap64 (x1_2 + 1))⟩ : S120) ) (fun _ hk => hk); have hx23_3 := hcc23 3 _ rfl; (try simp only [show (k120).sz = 4 from rfl, Nat.mul_one, Nat.add_zero] at hx23_3); have hf23_3 := hfr23 3; (try simp only [show (k120).sz = 4 from rfl, Nat.mul_one, Nat.add_zero] at hf23_3); clear hcl23 hcc23 hfr23 hM23) | ((with_reducible refine gate_store (t := 118) (p := 40) rfl ?_); refine store_event (t := 118) (p := 40) (v := ?vo_w24) (w1 := (w22.setCell ⟨go19, (x5_1 : Int).toNat * 4 + 3, none⟩ (.int .i16 (IntKind.i16.wrap (wrap64 (x1_2 + 1)))))) ?hg ?ho ?hn ?hr ?_; (case ho => rfl); (case hg => rfl); (case hn => rfl); (case hr => first | (go_simp; done) | (go_simp; rfl)); intro w24 hw; have hg : w22.grownBy w24 (some go19) := (by rw [hw]; exact HP23.2); have hp_ : Kd.R k120 120 w24 w0.heap.size (fun k_ => (P0_ k_ ∨ w.heap.size ≤ k_)) (.slice (some ⟨go19, 0, none⟩) x0_2.length co4) y112 := (by rw [hw, Ny112.out]; exact HP23.1); clear HP23; have n0_ := Aside0.mk (hp_); have n1_ := Aside0.mk ((by rw [hw]; exact below_set (HB.out) GB19.out : Below w0.heap.size w0 w24)); have n2_ := Aside0.mk (Kept.of_grown (S := (fun k_ => P0_ k_)) hg (by repeat (first | (with_reducible first | exact HK.out | apply Kept.alloc | apply Kept.drewN | apply Kept.drew) | exact HK.out)) (fun k_ e_ => (HO_0.out.1 k_ e_))); clear HO_0; clear HB; clear HK; have HO_0 := n0_; have HB := n1_; have HK := n2_; clear n0_ n1_ n2_; clear hg hw hp_))
                  (try simp only [← hl0_2])
                  go_roundg k2
                  case measure => have := HK1.out; have := HK2.out; omega
                  case rel => exact ⟨(y112), (wrap64 ((wrap64 (x1_2 + 1)) + 1)), (wrap64 (x5_1 + 1)), (by first | rfl | (simp; done) | (simp [*]; done) | (exact congrArg (Value.int .i64) (wrap_eq (by omega)))), (by first | rfl | (simp; done) | (simp [*]; done) | (exact congrArg (Value.int .i64) (wrap_eq (by omega)))), H', ⟨by have := HK1.out; have := HK2.out; omega⟩, ⟨by (try simp only [hl0_2]); (with_reducible repeat (first | apply Kd.R_alloc | apply Kd.R_drewN | apply Kd.R_drew)); exact HO_0.out⟩, ⟨by repeat (first | (with_reducible first | exact HK.out | apply Kept.alloc | apply Kept.drewN | apply Kept.drew) | exact HK.out)⟩, ⟨by repeat (first | (with_reducible first | exact HB.out | apply below_alloc | apply pw_below_drewN | apply below_drew1) | exact HB.out)⟩⟩
                · rw [if_neg c18] at H
                  exact absurd H (by simp)
              · rw [if_neg c17] at H
                exact absurd H (by simp)
      · rw [if_neg c3] at H
        have c3b0 : decide (x5_1 < (x0_1.length : Int)) = false := decide_eq_false c3
        clear c3
        simp only [Option.some.injEq, Prod.mk.injEq] at H
        obtain ⟨rfl, rfl⟩ := H
        obtain ⟨Ao25, co25, eo25⟩ := Kd.R_slice HO_0.out
        subst eo25
        go_wp2
        go_ret
        exact ⟨by first | rfl | (simp [errW_none, errW_some] <;> rfl) | (simp [*, errW_none, errW_some] <;> rfl), by (with_reducible repeat (first | apply Kd.R_alloc | apply Kd.R_drewN | apply Kd.R_drew)); exact HO_0.out, by repeat (first | (with_reducible first | exact HB.out | apply below_alloc | apply pw_below_drewN | apply below_drew1) | exact HB.out), by repeat (first | (with_reducible first | exact HK.out | apply Kept.alloc | apply Kept.drewN | apply Kept.drew) | exact HK.out)⟩

/-! ### laws_heldPushS: function 32 -/
mutual
def laws_heldPushS.l0 : Nat → List (S120) → Int → Int → Option (Int)
  | 0, _, _, _ => none
  | k + 1, x0, x1, x5 => if x5 < (x0.length : Int) then (laws_heldPushS.l1 k x0 x1 x5 0) else (some x1)
def laws_heldPushS.l1 : Nat → List (S120) → Int → Int → Int → Option (Int)
  | 0, _, _, _, _ => none
  | k + 1, x0, x1, x5, x6 => if x6 < 2 then (if 0 ≤ x5 then (if x5 < (x0.length : Int) then (if x6 = 0 then (if ((rd_T120 x0 x5).f0.f0) = (IntKind.i8.wrap (x1)) then (laws_heldPushS.l1 k x0 (wrap64 (x1 + 1)) x5 (wrap64 (x6 + 1))) else (some (-1))) else (if x6 = 1 then (if ((rd_T120 x0 x5).f0.f1) = (IntKind.i8.wrap (x1)) then (laws_heldPushS.l1 k x0 (wrap64 (x1 + 1)) x5 (wrap64 (x6 + 1))) else (some (-1))) else (none))) else (none)) else (none)) else (if 0 ≤ x5 then (if x5 < (x0.length : Int) then (if ((rd_T120 x0 x5).f1) = (IntKind.i8.wrap (x1)) then (if ((rd_T120 x0 x5).f2) = (IntKind.i16.wrap (wrap64 (x1 + 1))) then (laws_heldPushS.l0 k x0 (wrap64 ((wrap64 (x1 + 1)) + 1)) (wrap64 (x5 + 1))) else (some (-1))) else (some (-1))) else (none)) else (none))
end
def laws_heldPushS.f (k : Nat) (l0 : List (S120)) (a1 : Int) : Option (Int) := laws_heldPushS.l0 k l0 a1 0
theorem laws_heldPushS.mono_l : ∀ k, (∀ y0 y1 y2, LeO (laws_heldPushS.l0 k y0 y1 y2) (laws_heldPushS.l0 (k + 1) y0 y1 y2)) ∧ (∀ y0 y1 y2 y3, LeO (laws_heldPushS.l1 k y0 y1 y2 y3) (laws_heldPushS.l1 (k + 1) y0 y1 y2 y3))
  | 0 => ⟨fun _ _ _ r h => by simp [laws_heldPushS.l0] at h, fun _ _ _ _ r h => by simp [laws_heldPushS.l1] at h⟩
  | k + 1 => by
    obtain ⟨ih0, ih1⟩ := laws_heldPushS.mono_l k
    refine ⟨?_, ?_⟩
    · intro y0 y1 y2
      unfold laws_heldPushS.l0
      repeat' first
      | (with_reducible exact ih0 _ _ _)
      | (with_reducible exact ih1 _ _ _ _)
      | (with_reducible exact LeO.refl _)
      | (with_reducible exact LeO.none _)
      | (with_reducible refine LeO.ite ?_ ?_)
      | (with_reducible refine LeO.bind ?_ (fun _ => ?_))
      | exact ih0 _ _ _
      | exact ih1 _ _ _ _
      | exact LeO.none _
      | refine LeO.ite ?_ ?_
      | refine LeO.bind ?_ (fun _ => ?_)
    · intro y0 y1 y2 y3
      unfold laws_heldPushS.l1
      repeat' first
      | (with_reducible exact ih0 _ _ _)
      | (with_reducible exact ih1 _ _ _ _)
      | (with_reducible exact LeO.refl _)
      | (with_reducible exact LeO.none _)
      | (with_reducible refine LeO.ite ?_ ?_)
      | (with_reducible refine LeO.bind ?_ (fun _ => ?_))
      | exact ih0 _ _ _
      | exact ih1 _ _ _ _
      | exact LeO.none _
      | refine LeO.ite ?_ ?_
      | refine LeO.bind ?_ (fun _ => ?_)
theorem laws_heldPushS.mono : ∀ a0 a1 k, LeO (laws_heldPushS.f k a0 a1) (laws_heldPushS.f (k + 1) a0 a1) := by
  intro a0 a1 k
  obtain ⟨ih0, ih1⟩ := laws_heldPushS.mono_l k
  unfold laws_heldPushS.f
  repeat' first
      | (with_reducible exact ih0 _ _ _)
      | (with_reducible exact ih1 _ _ _ _)
      | (with_reducible exact LeO.refl _)
      | (with_reducible exact LeO.none _)
      | (with_reducible refine LeO.ite ?_ ?_)
      | (with_reducible refine LeO.bind ?_ (fun _ => ?_))
      | exact ih0 _ _ _
      | exact ih1 _ _ _ _
      | exact LeO.none _
      | refine LeO.ite ?_ ?_
      | refine LeO.bind ?_ (fun _ => ?_)
set_option maxHeartbeats 8000000 in
set_option maxRecDepth 100000 in
theorem laws_heldPushS.calls (k : Nat) (A0 : Option Addr) (c0 : Nat) (l0 : List (S120)) (a1 : Int) (r : Int) (w : World) (hr0 : Kd.C k120 w A0 l0.length l0) (hc0 : l0.length ≤ c0) (h : laws_heldPushS.f k l0 a1 = some r) :
    Calls Try.prog 32 #[.slice A0 l0.length c0, .int .i64 a1] w fun e w' => e = .returned (.int .i64 r) ∧ Drawn0 w w' := by
  have HR0 := Aside0.mk hr0
  have HC0 := Aside0.mk hc0
  clear hr0 hc0
  have H : (laws_heldPushS.l0 k l0 a1 0) = some r := h
  clear h
  have H' := Aside0.mk H
  clear H
  go_enter Try.func32, Try.ntmps32
  go_wp2
  go_loopg [1, 5] k (fun kq v1 v5 w' => ∃ (x1_1 : Int) (x5_1 : Int), v1 = .int .i64 x1_1 ∧ v5 = .int .i64 x5_1 ∧ Aside0 (laws_heldPushS.l0 kq l0 x1_1 x5_1 = some r) ∧ Aside0 (kq ≤ k) ∧ Drawn0 w w')
  case atStart => exact ⟨(a1), (0), (by first | rfl | (simp; done) | (simp [*]; done) | (exact congrArg (Value.int .i64) (wrap_eq (by omega)))), (by first | rfl | (simp; done) | (simp [*]; done) | (exact congrArg (Value.int .i64) (wrap_eq (by omega)))), H', ⟨Nat.le_refl _⟩, by repeat (first | exact Drawn0.refl _ | apply Drawn0.step)⟩
  case round =>
    clear H'
    try clear p2
    obtain ⟨x1_1, x5_1, rfl, rfl, HA, HK1, ⟨m1, rfl⟩⟩ := hrel
    cases gk with
    | zero => exact absurd HA.out (by simp [laws_heldPushS.l0])
    | succ k1 =>
      have H := HA.out
      clear HA
      simp only [laws_heldPushS.l0] at H
      by_cases c3 : x5_1 < (l0.length : Int)
      · rw [if_pos c3] at H
        have c3b0 : decide (x5_1 < (l0.length : Int)) = true := decide_eq_true c3
        clear c3
        have H' := Aside0.mk H
        clear H
        go_wp2
        go_loopg [1, 6] k1 (fun kq v1 v6 w' => ∃ (x1_2 : Int) (x6_2 : Int), v1 = .int .i64 x1_2 ∧ v6 = .int .i64 x6_2 ∧ Aside0 (laws_heldPushS.l1 kq l0 x1_2 x5_1 x6_2 = some r) ∧ Aside0 (kq ≤ k1) ∧ Drawn0 w w')
        case atStart => exact ⟨(x1_1), (0), (by first | rfl | (simp; done) | (simp [*]; done) | (exact congrArg (Value.int .i64) (wrap_eq (by omega)))), (by first | rfl | (simp; done) | (simp [*]; done) | (exact congrArg (Value.int .i64) (wrap_eq (by omega)))), H', ⟨Nat.le_refl _⟩, by repeat (first | exact Drawn0.refl _ | apply Drawn0.step)⟩
        case round =>
          clear H'
          try clear p2
          try clear c3
          try clear c3b0
          try clear p2
          obtain ⟨x1_2, x6_2, rfl, rfl, HA, HK2, ⟨m2, rfl⟩⟩ := hrel
          cases gk with
          | zero => exact absurd HA.out (by simp [laws_heldPushS.l1])
          | succ k2 =>
            have H := HA.out
            clear HA
            simp only [laws_heldPushS.l1] at H
            by_cases c4 : x6_2 < 2
            · rw [if_pos c4] at H
              have c4b0 : decide (x6_2 < 2) = true := decide_eq_true c4
              clear c4
              by_cases c5 : 0 ≤ x5_1
              · rw [if_pos c5] at H
                have c5b0 : decide (0 ≤ x5_1) = true := decide_eq_true c5
                clear c5
                by_cases c6 : x5_1 < (l0.length : Int)
                · rw [if_pos c6] at H
                  have c6b0 : decide (x5_1 < (l0.length : Int)) = true := decide_eq_true c6
                  clear c6
                  by_cases c7 : x6_2 = 0
                  · rw [if_pos c7] at H
                    have Ac7 : Aside0 (x6_2 = 0) := ⟨c7⟩
                    clear c7
                    have ar8e : x6_2 = 0 := by first | exact (show Aside0 (x6_2 = 0) by assumption).out | exact beq_iff_eq.mp (by assumption) | omega
                    have ar8n : (x6_2).toNat = 0 := by rw [ar8e]; rfl
                    have ar8l : decide (0 ≤ x6_2) = true := decide_eq_true (by omega)
                    have ar8L := eq_true (of_decide_eq_true ar8l)
                    have ar8h : decide (x6_2 < 2) = true := decide_eq_true (by omega)
                    have ar8H := eq_true (of_decide_eq_true ar8h)
                    clear ar8e
                    by_cases c9 : ((rd_T120 l0 x5_1).f0.f0) = (IntKind.i8.wrap (x1_2))
                    · rw [if_pos c9] at H
                      have c9b0 : (((rd_T120 l0 x5_1).f0.f0) == (IntKind.i8.wrap (x1_2))) = true := beq_iff_eq.mpr c9
                      have c9b1 : (((rd_T120 l0 x5_1).f0.f0) != (IntKind.i8.wrap (x1_2))) = false := bne_eq_false_iff_eq.mpr c9
                      clear c9
                      have H' := Aside0.mk H
                      clear H
                      have p113 : 0 ≤ (x5_1 : Int) := of_decide_eq_true (by first | (with_reducible assumption) | assumption)
                      have q113 : x5_1 < (l0.length : Int) := of_decide_eq_true (by first | (with_reducible assumption) | assumption)
                      obtain ⟨ad113, e113, hx113_0, hx113_1, hx113_2, hx113_3⟩ := at_T120 HR0.out x5_1 p113 q113
                      cases e113
                      replace p113 := eq_true p113
                      replace q113 := eq_true q113
                      go_wp2
                      go_roundg k2
                      case measure => have := HK1.out; have := HK2.out; omega
                      case rel => exact ⟨(wrap64 (x1_2 + 1)), (wrap64 (x6_2 + 1)), (by first | rfl | (simp; done) | (simp [*]; done) | (exact congrArg (Value.int .i64) (wrap_eq (by omega)))), (by first | rfl | (simp; done) | (simp [*]; done) | (exact congrArg (Value.int .i64) (wrap_eq (by omega)))), H', ⟨by have := HK1.out; have := HK2.out; omega⟩, by repeat (first | exact Drawn0.refl _ | apply Drawn0.step)⟩
                    · rw [if_neg c9] at H
                      have c9b0 : (((rd_T120 l0 x5_1).f0.f0) == (IntKind.i8.wrap (x1_2))) = false := beq_eq_false_iff_ne.mpr c9
                      have c9b1 : (((rd_T120 l0 x5_1).f0.f0) != (IntKind.i8.wrap (x1_2))) = true := bne_iff_ne.mpr c9
                      obtain rfl := Option.some.inj H
                      have p113 : 0 ≤ (x5_1 : Int) := of_decide_eq_true (by first | (with_reducible assumption) | assumption)
                      have q113 : x5_1 < (l0.length : Int) := of_decide_eq_true (by first | (with_reducible assumption) | assumption)
                      obtain ⟨ad113, e113, hx113_0, hx113_1, hx113_2, hx113_3⟩ := at_T120 HR0.out x5_1 p113 q113
                      cases e113
                      replace p113 := eq_true p113
                      replace q113 := eq_true q113
                      go_wp2
                      go_ret
                      exact ⟨by first | rfl | (simp; done) | (simp [*]; done) | (exact congrArg (Value.int .i64) (wrap_eq (by omega))), by repeat (first | exact Drawn0.refl _ | apply Drawn0.step)⟩
                  · rw [if_neg c7] at H
                    clear c7
                    by_cases c10 : x6_2 = 1
                    · rw [if_pos c10] at H
                      have Ac10 : Aside0 (x6_2 = 1) := ⟨c10⟩
                      clear c10
                      have ar11e : x6_2 = 1 := by first | exact (show Aside0 (x6_2 = 1) by assumption).out | exact beq_iff_eq.mp (by assumption) | omega
                      have ar11n : (x6_2).toNat = 1 := by rw [ar11e]; rfl
                      have ar11l : decide (0 ≤ x6_2) = true := decide_eq_true (by omega)
                      have ar11L := eq_true (of_decide_eq_true ar11l)
                      have ar11h : decide (x6_2 < 2) = true := decide_eq_true (by omega)
                      have ar11H := eq_true (of_decide_eq_true ar11h)
                      clear ar11e
                      by_cases c12 : ((rd_T120 l0 x5_1).f0.f1) = (IntKind.i8.wrap (x1_2))
                      · rw [if_pos c12] at H
                        have c12b0 : (((rd_T120 l0 x5_1).f0.f1) == (IntKind.i8.wrap (x1_2))) = true := beq_iff_eq.mpr c12
                        have c12b1 : (((rd_T120 l0 x5_1).f0.f1) != (IntKind.i8.wrap (x1_2))) = false := bne_eq_false_iff_eq.mpr c12
                        clear c12
                        have H' := Aside0.mk H
                        clear H
                        have p113 : 0 ≤ (x5_1 : Int) := of_decide_eq_true (by first | (with_reducible assumption) | assumption)
                        have q113 : x5_1 < (l0.length : Int) := of_decide_eq_true (by first | (with_reducible assumption) | assumption)
                        obtain ⟨ad113, e113, hx113_0, hx113_1, hx113_2, hx113_3⟩ := at_T120 HR0.out x5_1 p113 q113
                        cases e113
                        replace p113 := eq_true p113
                        replace q113 := eq_true q113
                        go_wp2
                        go_roundg k2
                        case measure => have := HK1.out; have := HK2.out; omega
                        case rel => exact ⟨(wrap64 (x1_2 + 1)), (wrap64 (x6_2 + 1)), (by first | rfl | (simp; done) | (simp [*]; done) | (exact congrArg (Value.int .i64) (wrap_eq (by omega)))), (by first | rfl | (simp; done) | (simp [*]; done) | (exact congrArg (Value.int .i64) (wrap_eq (by omega)))), H', ⟨by have := HK1.out; have := HK2.out; omega⟩, by repeat (first | exact Drawn0.refl _ | apply Drawn0.step)⟩
                      · rw [if_neg c12] at H
                        have c12b0 : (((rd_T120 l0 x5_1).f0.f1) == (IntKind.i8.wrap (x1_2))) = false := beq_eq_false_iff_ne.mpr c12
                        have c12b1 : (((rd_T120 l0 x5_1).f0.f1) != (IntKind.i8.wrap (x1_2))) = true := bne_iff_ne.mpr c12
                        obtain rfl := Option.some.inj H
                        have p113 : 0 ≤ (x5_1 : Int) := of_decide_eq_true (by first | (with_reducible assumption) | assumption)
                        have q113 : x5_1 < (l0.length : Int) := of_decide_eq_true (by first | (with_reducible assumption) | assumption)
                        obtain ⟨ad113, e113, hx113_0, hx113_1, hx113_2, hx113_3⟩ := at_T120 HR0.out x5_1 p113 q113
                        cases e113
                        replace p113 := eq_true p113
                        replace q113 := eq_true q113
                        go_wp2
                        go_ret
                        exact ⟨by first | rfl | (simp; done) | (simp [*]; done) | (exact congrArg (Value.int .i64) (wrap_eq (by omega))), by repeat (first | exact Drawn0.refl _ | apply Drawn0.step)⟩
                    · rw [if_neg c10] at H
                      exact absurd H (by simp)
                · rw [if_neg c6] at H
                  exact absurd H (by simp)
              · rw [if_neg c5] at H
                exact absurd H (by simp)
            · rw [if_neg c4] at H
              have c4b0 : decide (x6_2 < 2) = false := decide_eq_false c4
              clear c4
              by_cases c13 : 0 ≤ x5_1
              · rw [if_pos c13] at H
                have c13b0 : decide (0 ≤ x5_1) = true := decide_eq_true c13
                clear c13
                by_cases c14 : x5_1 < (l0.length : Int)
                · rw [if_pos c14] at H
                  have c14b0 : decide (x5_1 < (l0.length : Int)) = true := decide_eq_true c14
                  clear c14
                  by_cases c15 : ((rd_T120 l0 x5_1).f1) = (IntKind.i8.wrap (x1_2))
                  · rw [if_pos c15] at H
                    have c15b0 : (((rd_T120 l0 x5_1).f1) == (IntKind.i8.wrap (x1_2))) = true := beq_iff_eq.mpr c15
                    have c15b1 : (((rd_T120 l0 x5_1).f1) != (IntKind.i8.wrap (x1_2))) = false := bne_eq_false_iff_eq.mpr c15
                    clear c15
                    by_cases c16 : ((rd_T120 l0 x5_1).f2) = (IntKind.i16.wrap (wrap64 (x1_2 + 1)))
                    · rw [if_pos c16] at H
                      have c16b0 : (((rd_T120 l0 x5_1).f2) == (IntKind.i16.wrap (wrap64 (x1_2 + 1)))) = true := beq_iff_eq.mpr c16
                      have c16b1 : (((rd_T120 l0 x5_1).f2) != (IntKind.i16.wrap (wrap64 (x1_2 + 1)))) = false := bne_eq_false_iff_eq.mpr c16
                      clear c16
                      have H' := Aside0.mk H
                      clear H
                      have p114 : 0 ≤ (x5_1 : Int) := of_decide_eq_true (by first | (with_reducible assumption) | assumption)
                      have q114 : x5_1 < (l0.length : Int) := of_decide_eq_true (by first | (with_reducible assumption) | assumption)
                      obtain ⟨ad114, e114, hx114_0, hx114_1, hx114_2, hx114_3⟩ := at_T120 HR0.out x5_1 p114 q114
                      cases e114
                      replace p114 := eq_true p114
                      replace q114 := eq_true q114
                      have p115 : 0 ≤ (x5_1 : Int) := of_decide_eq_true (by first | (with_reducible assumption) | assumption)
                      have q115 : x5_1 < (l0.length : Int) := of_decide_eq_true (by first | (with_reducible assumption) | assumption)
                      obtain ⟨ad115, e115, hx115_0, hx115_1, hx115_2, hx115_3⟩ := at_T120 HR0.out x5_1 p115 q115
                      obtain rfl : ad114 = ad115 := (by injection e115)
                      replace p115 := eq_true p115
                      replace q115 := eq_true q115
                      go_wp2
                      go_roundg k2
                      case measure => have := HK1.out; have := HK2.out; omega
                      case rel => exact ⟨(wrap64 ((wrap64 (x1_2 + 1)) + 1)), (wrap64 (x5_1 + 1)), (by first | rfl | (simp; done) | (simp [*]; done) | (exact congrArg (Value.int .i64) (wrap_eq (by omega)))), (by first | rfl | (simp; done) | (simp [*]; done) | (exact congrArg (Value.int .i64) (wrap_eq (by omega)))), H', ⟨by have := HK1.out; have := HK2.out; omega⟩, by repeat (first | exact Drawn0.refl _ | apply Drawn0.step)⟩
                    · rw [if_neg c16] at H
                      have c16b0 : (((rd_T120 l0 x5_1).f2) == (IntKind.i16.wrap (wrap64 (x1_2 + 1)))) = false := beq_eq_false_iff_ne.mpr c16
                      have c16b1 : (((rd_T120 l0 x5_1).f2) != (IntKind.i16.wrap (wrap64 (x1_2 + 1)))) = true := bne_iff_ne.mpr c16
                      obtain rfl := Option.some.inj H
                      have p114 : 0 ≤ (x5_1 : Int) := of_decide_eq_true (by first | (with_reducible assumption) | assumption)
                      have q114 : x5_1 < (l0.length : Int) := of_decide_eq_true (by first | (with_reducible assumption) | assumption)
                      obtain ⟨ad114, e114, hx114_0, hx114_1, hx114_2, hx114_3⟩ := at_T120 HR0.out x5_1 p114 q114
                      cases e114
                      replace p114 := eq_true p114
                      replace q114 := eq_true q114
                      have p115 : 0 ≤ (x5_1 : Int) := of_decide_eq_true (by first | (with_reducible assumption) | assumption)
                      have q115 : x5_1 < (l0.length : Int) := of_decide_eq_true (by first | (with_reducible assumption) | assumption)
                      obtain ⟨ad115, e115, hx115_0, hx115_1, hx115_2, hx115_3⟩ := at_T120 HR0.out x5_1 p115 q115
                      obtain rfl : ad114 = ad115 := (by injection e115)
                      replace p115 := eq_true p115
                      replace q115 := eq_true q115
                      go_wp2
                      go_ret
                      exact ⟨by first | rfl | (simp; done) | (simp [*]; done) | (exact congrArg (Value.int .i64) (wrap_eq (by omega))), by repeat (first | exact Drawn0.refl _ | apply Drawn0.step)⟩
                  · rw [if_neg c15] at H
                    have c15b0 : (((rd_T120 l0 x5_1).f1) == (IntKind.i8.wrap (x1_2))) = false := beq_eq_false_iff_ne.mpr c15
                    have c15b1 : (((rd_T120 l0 x5_1).f1) != (IntKind.i8.wrap (x1_2))) = true := bne_iff_ne.mpr c15
                    obtain rfl := Option.some.inj H
                    have p114 : 0 ≤ (x5_1 : Int) := of_decide_eq_true (by first | (with_reducible assumption) | assumption)
                    have q114 : x5_1 < (l0.length : Int) := of_decide_eq_true (by first | (with_reducible assumption) | assumption)
                    obtain ⟨ad114, e114, hx114_0, hx114_1, hx114_2, hx114_3⟩ := at_T120 HR0.out x5_1 p114 q114
                    cases e114
                    replace p114 := eq_true p114
                    replace q114 := eq_true q114
                    go_wp2
                    go_ret
                    exact ⟨by first | rfl | (simp; done) | (simp [*]; done) | (exact congrArg (Value.int .i64) (wrap_eq (by omega))), by repeat (first | exact Drawn0.refl _ | apply Drawn0.step)⟩
                · rw [if_neg c14] at H
                  exact absurd H (by simp)
              · rw [if_neg c13] at H
                exact absurd H (by simp)
      · rw [if_neg c3] at H
        have c3b0 : decide (x5_1 < (l0.length : Int)) = false := decide_eq_false c3
        clear c3
        obtain rfl := Option.some.inj H
        go_wp2
        go_ret
        exact ⟨by first | rfl | (simp; done) | (simp [*]; done) | (exact congrArg (Value.int .i64) (wrap_eq (by omega))), by repeat (first | exact Drawn0.refl _ | apply Drawn0.step)⟩

/-! ### laws_szPushS: function 33 -/
def laws_szPushS.f (l0 : List (S129)) (a1 : Int) : Option (Int) := if (wrap64 (a1 - (l0.length : Int))) < 0 then (some (-1)) else (some (wrap64 (a1 - (l0.length : Int))))
set_option maxHeartbeats 8000000 in
set_option maxRecDepth 100000 in
theorem laws_szPushS.calls (A0 : Option Addr) (c0 : Nat) (l0 : List (S129)) (a1 : Int) (r : Int) (w : World) (hr0 : Kd.C k129 w A0 l0.length l0) (hc0 : l0.length ≤ c0) (h : laws_szPushS.f l0 a1 = some r) :
    Calls Try.prog 33 #[.slice A0 l0.length c0, .int .i64 a1] w fun e w' => e = .returned (.int .i64 r) ∧ Drawn0 w w' := by
  have HR0 := Aside0.mk hr0
  have HC0 := Aside0.mk hc0
  clear hr0 hc0
  have H : (if (wrap64 (a1 - (l0.length : Int))) < 0 then (some (-1)) else (some (wrap64 (a1 - (l0.length : Int))))) = some r := h
  clear h
  by_cases c3 : (wrap64 (a1 - (l0.length : Int))) < 0
  · rw [if_pos c3] at H
    have c3b0 : decide ((wrap64 (a1 - (l0.length : Int))) < 0) = true := decide_eq_true c3
    clear c3
    obtain rfl := Option.some.inj H
    go_enter Try.func33, Try.ntmps33
    go_wp2
    go_ret
    exact ⟨by first | rfl | (simp; done) | (simp [*]; done) | (exact congrArg (Value.int .i64) (wrap_eq (by omega))), by repeat (first | exact Drawn0.refl _ | apply Drawn0.step)⟩
  · rw [if_neg c3] at H
    have c3b0 : decide ((wrap64 (a1 - (l0.length : Int))) < 0) = false := decide_eq_false c3
    clear c3
    obtain rfl := Option.some.inj H
    go_enter Try.func33, Try.ntmps33
    go_wp2
    go_ret
    exact ⟨by first | rfl | (simp; done) | (simp [*]; done) | (exact congrArg (Value.int .i64) (wrap_eq (by omega))), by repeat (first | exact Drawn0.refl _ | apply Drawn0.step)⟩

/-! ### spec_l00In: function 96 -/
def spec_l00In.f (a0 : Int) (a1 : Int) (a2 : Int) : Option (Bool) := if a0 ≥ a1 then (some (decide (a0 ≤ a2))) else (some false)
set_option maxHeartbeats 8000000 in
set_option maxRecDepth 100000 in
theorem spec_l00In.calls (a0 : Int) (a1 : Int) (a2 : Int) (r : Bool) (w : World) (h : spec_l00In.f a0 a1 a2 = some r) :
    Calls Try.prog 96 #[.int .i64 a0, .int .i64 a1, .int .i64 a2] w fun e w' => e = .returned (.bool r) ∧ Drawn0 w w' := by
  have H : (if a0 ≥ a1 then (some (decide (a0 ≤ a2))) else (some false)) = some r := h
  clear h
  by_cases c4 : a0 ≥ a1
  · rw [if_pos c4] at H
    have c4b0 : decide (a1 ≤ a0) = true := decide_eq_true c4
    clear c4
    obtain rfl := Option.some.inj H
    go_enter Try.func96, Try.ntmps96
    go_wp2
    go_ret
    exact ⟨by first | rfl | (simp; done) | (simp [*]; done) | (exact congrArg (Value.int .i64) (wrap_eq (by omega))), by repeat (first | exact Drawn0.refl _ | apply Drawn0.step)⟩
  · rw [if_neg c4] at H
    have c4b0 : decide (a1 ≤ a0) = false := decide_eq_false c4
    clear c4
    obtain rfl := Option.some.inj H
    go_enter Try.func96, Try.ntmps96
    go_wp2
    go_ret
    exact ⟨by first | rfl | (simp; done) | (simp [*]; done) | (exact congrArg (Value.int .i64) (wrap_eq (by omega))), by repeat (first | exact Drawn0.refl _ | apply Drawn0.step)⟩

/-! ### spec_LaterPushes: function 34 -/
def spec_LaterPushes.l0 : Nat → List (S120) → Int → List (S120) → Int → Option ((List (S120)) × Int)
  | 0, _, _, _, _ => none
  | k + 1, x0, x1, x6, x7 => if x7 < (x0.length : Int) then (if 0 ≤ x7 then ((spec_l00In.f (wrap64 ((rd_T120 x0 x7).f2)) 0 1000).bind fun t128 => (if t128 = true then ((spec_l00In.f (wrap64 ((wrap64 ((rd_T120 x0 x7).f2)) + x1)) 0 1000).bind fun t129 => (if t129 = true then (if x6.length < 23456248059221 then (spec_LaterPushes.l0 k x0 x1 (x6 ++ [(⟨(⟨(rd_T120 x0 x7).f0.f0, (rd_T120 x0 x7).f0.f1⟩ : S74), (rd_T120 x0 x7).f1, IntKind.i16.wrap (wrap64 ((wrap64 ((rd_T120 x0 x7).f2)) + x1))⟩ : S120)]) (wrap64 (x7 + 1))) else (none)) else (some ((([] : List (S120))), 3)))) else (some ((([] : List (S120))), 3)))) else (none)) else (some (x6, 0))
def spec_LaterPushes.f (k : Nat) (l0 : List (S120)) (a1 : Int) : Option ((List (S120)) × Int) := (spec_l00In.f a1 (-1000) 1000).bind fun t116 => (if t116 = true then (if (l0.length : Int) > 20 then (some ((([] : List (S120))), 3)) else (spec_LaterPushes.l0 k l0 a1 (([] : List (S120))) 0)) else (some ((([] : List (S120))), 2)))
theorem spec_LaterPushes.mono_l : ∀ k, (∀ y0 y1 y2 y3, LeO (spec_LaterPushes.l0 k y0 y1 y2 y3) (spec_LaterPushes.l0 (k + 1) y0 y1 y2 y3))
  | 0 => fun _ _ _ _ r h => by simp [spec_LaterPushes.l0] at h
  | k + 1 => by
    have ih0 := spec_LaterPushes.mono_l k
    · intro y0 y1 y2 y3
      unfold spec_LaterPushes.l0
      repeat' first
      | (with_reducible exact ih0 _ _ _ _)
      | (with_reducible exact LeO.refl _)
      | (with_reducible exact LeO.none _)
      | (with_reducible refine LeO.ite ?_ ?_)
      | (with_reducible refine LeO.bind ?_ (fun _ => ?_))
      | exact ih0 _ _ _ _
      | exact LeO.none _
      | refine LeO.ite ?_ ?_
      | refine LeO.bind ?_ (fun _ => ?_)
theorem spec_LaterPushes.mono : ∀ a0 a1 k, LeO (spec_LaterPushes.f k a0 a1) (spec_LaterPushes.f (k + 1) a0 a1) := by
  intro a0 a1 k
  have ih0 := spec_LaterPushes.mono_l k
  unfold spec_LaterPushes.f
  repeat' first
      | (with_reducible exact ih0 _ _ _ _)
      | (with_reducible exact LeO.refl _)
      | (with_reducible exact LeO.none _)
      | (with_reducible refine LeO.ite ?_ ?_)
      | (with_reducible refine LeO.bind ?_ (fun _ => ?_))
      | exact ih0 _ _ _ _
      | exact LeO.none _
      | refine LeO.ite ?_ ?_
      | refine LeO.bind ?_ (fun _ => ?_)
set_option maxHeartbeats 8000000 in
set_option maxRecDepth 100000 in
theorem spec_LaterPushes.calls (k : Nat) (A0 : Option Addr) (c0 : Nat) (l0 : List (S120)) (a1 : Int) (r1 : List (S120)) (r2 : Int) (w : World) (hr0 : Kd.C k120 w A0 l0.length l0) (hc0 : l0.length ≤ c0) (h : spec_LaterPushes.f k l0 a1 = some (r1, r2)) :
    Calls Try.prog 34 #[.slice A0 l0.length c0, .int .i64 a1] w fun e w' => ∃ v0_ : Value, e = .returned (.tuple #[v0_, .int .i64 r2]) ∧ Kd.R k120 120 w' w.heap.size (fun _ => True) v0_ r1 ∧ Below w.heap.size w w' := by
  have hu120 := Try.underlying120
  have HR0 := Aside0.mk hr0
  have HC0 := Aside0.mk hc0
  clear hr0 hc0
  have HB := Aside0.mk (Below.refl w.heap.size w)
  have H : ((spec_l00In.f a1 (-1000) 1000).bind fun t116 => (if t116 = true then (if (l0.length : Int) > 20 then (some ((([] : List (S120))), 3)) else (spec_LaterPushes.l0 k l0 a1 (([] : List (S120))) 0)) else (some ((([] : List (S120))), 2)))) = some (r1, r2) := h
  clear h
  replace H := Option.bind_eq_some_iff.mp H
  obtain ⟨t116, A30, H⟩ := H
  replace H : (if t116 = true then (if (l0.length : Int) > 20 then (some ((([] : List (S120))), 3)) else (spec_LaterPushes.l0 k l0 a1 (([] : List (S120))) 0)) else (some ((([] : List (S120))), 2))) = some (r1, r2) := H
  have A3 := Aside0.mk A30
  clear A30
  by_cases c4 : t116 = true
  · subst c4
    have H1 : (if (l0.length : Int) > 20 then (some ((([] : List (S120))), 3)) else (spec_LaterPushes.l0 k l0 a1 (([] : List (S120))) 0)) = some (r1, r2) := by rw [if_pos rfl] at H; exact H
    clear H
    have H := H1
    clear H1
    by_cases c5 : (l0.length : Int) > 20
    · rw [if_pos c5] at H
      have c5b0 : decide (20 < (l0.length : Int)) = true := decide_eq_true c5
      have c5b1 : decide (20 < l0.length) = true := decide_eq_true (by omega)
      clear c5
      obtain ⟨y120, hy120⟩ : ∃ y_ : List (S120), y_ = (([] : List (S120))) := ⟨_, rfl⟩
      replace H : (some (y120, 3)) = some (r1, r2) := by first | (rw [hy120]; with_reducible exact H) | (have H2_ := (Option.bind_some _ _).symm.trans H; rw [hy120]; with_reducible exact H2_) | (have H2_ := (Option.bind_some _ _).symm.trans H; with_reducible exact H2_) | with_reducible exact H | (rw [hy120]; exact H) | exact H
      have Ny120 := Aside0.mk hy120
      clear hy120
      simp only [Option.some.injEq, Prod.mk.injEq] at H
      obtain ⟨rfl, rfl⟩ := H
      go_enter Try.func34, Try.ntmps34
      go_wp2_with (first | ((with_reducible refine gate_callee (f := 96) rfl ?_); refine goesL_ (some 11) rfl rfl Try.func96 (by kernel_rfl) rfl #[.int .i64 a1, .int .i64 (-1000), .int .i64 1000] rfl (by (try simp only [List.map_toArray, List.map_cons, List.map_nil]); first | done | rfl | (simp only [List.length_drop, List.length_take]; rfl)) ?_; (with_reducible refine (spec_l00In.calls a1 (-1000) 1000 true _ A3.out).mono ?_); rintro e w' ⟨rfl, ⟨nd, rfl⟩⟩; refine ⟨_, rfl, ?_⟩) | ((with_reducible refine gate_dst (N := 17) rfl ?_); refine Kd.R_lit k120 _ 120 ?hg (N := 17) ?hd (xs := ([] : List (S120))) (inner := []) (ok := fun _ => True) (okp := fun _ => True) ?hr ?hp (fun _ hk => hk) trivial (Below.refl _ _) (Nat.le_refl _) (by simp) ?_; (case hd => rfl); (case hg => rfl); (case hr => first | (go_simp; done) | (go_simp; rfl)); (case hp => exact (Reps.none _ _)); intro v121 w6 ho7 hb hg_ hnew_; clear hg_ hnew_; (first | rw [← Ny120.out] at ho7 | (simp only [Int.reduceToNat] at ho7; rw [← Ny120.out] at ho7)); have n0_ := Aside0.mk (Kd.R_lower ho7 (below_size (by repeat (first | (with_reducible first | exact HB.out | apply below_alloc | apply pw_below_drewN | apply below_drew1) | exact HB.out)))); have n1_ := Aside0.mk (below_step (by repeat (first | (with_reducible first | exact HB.out | apply below_alloc | apply pw_below_drewN | apply below_drew1) | exact HB.out)) hb); clear HB; have HO122 := n0_; have HB := n1_; clear n0_ n1_; clear hb ho7))
      go_ret2
      exact ⟨_, by first | rfl | (simp [errW_none, errW_some] <;> rfl) | (simp [*, errW_none, errW_some] <;> rfl), by (with_reducible repeat (first | apply Kd.R_alloc | apply Kd.R_drewN | apply Kd.R_drew)); exact HO122.out, by repeat (first | (with_reducible first | exact HB.out | apply below_alloc | apply pw_below_drewN | apply below_drew1) | exact HB.out)⟩
    · rw [if_neg c5] at H
      have c5b0 : decide (20 < (l0.length : Int)) = false := decide_eq_false c5
      have c5b1 : decide (20 < l0.length) = false := decide_eq_false (by omega)
      clear c5
      obtain ⟨y123, hy123⟩ : ∃ y_ : List (S120), y_ = (([] : List (S120))) := ⟨_, rfl⟩
      replace H : (spec_LaterPushes.l0 k l0 a1 y123 0) = some (r1, r2) := by first | (rw [hy123]; with_reducible exact H) | (have H2_ := (Option.bind_some _ _).symm.trans H; rw [hy123]; with_reducible exact H2_) | (have H2_ := (Option.bind_some _ _).symm.trans H; with_reducible exact H2_) | with_reducible exact H | (rw [hy123]; exact H) | exact H
      have Ny123 := Aside0.mk hy123
      clear hy123
      have H' := Aside0.mk H
      clear H
      go_enter Try.func34, Try.ntmps34
      go_wp2_with (first | ((with_reducible refine gate_callee (f := 96) rfl ?_); refine goesL_ (some 11) rfl rfl Try.func96 (by kernel_rfl) rfl #[.int .i64 a1, .int .i64 (-1000), .int .i64 1000] rfl (by (try simp only [List.map_toArray, List.map_cons, List.map_nil]); first | done | rfl | (simp only [List.length_drop, List.length_take]; rfl)) ?_; (with_reducible refine (spec_l00In.calls a1 (-1000) 1000 true _ A3.out).mono ?_); rintro e w' ⟨rfl, ⟨nd, rfl⟩⟩; refine ⟨_, rfl, ?_⟩) | ((with_reducible refine gate_dst (N := 18) rfl ?_); refine Kd.R_lit k120 _ 120 ?hg (N := 18) ?hd (xs := ([] : List (S120))) (inner := []) (ok := fun _ => True) (okp := fun _ => True) ?hr ?hp (fun _ hk => hk) trivial (Below.refl _ _) (Nat.le_refl _) (by simp) ?_; (case hd => rfl); (case hg => rfl); (case hr => first | (go_simp; done) | (go_simp; rfl)); (case hp => exact (Reps.none _ _)); intro v124 w8 ho9 hb hg_ hnew_; clear hg_ hnew_; (first | rw [← Ny123.out] at ho9 | (simp only [Int.reduceToNat] at ho9; rw [← Ny123.out] at ho9)); have n0_ := Aside0.mk (Kd.R_lower ho9 (below_size (by repeat (first | (with_reducible first | exact HB.out | apply below_alloc | apply pw_below_drewN | apply below_drew1) | exact HB.out)))); have n1_ := Aside0.mk (below_step (by repeat (first | (with_reducible first | exact HB.out | apply below_alloc | apply pw_below_drewN | apply below_drew1) | exact HB.out)) hb); clear HB; have HO125 := n0_; have HB := n1_; clear n0_ n1_; clear hb ho9))
      go_loopg [6, 7] k (fun kq v6 v7 w' => ∃ (x6_1 : List (S120)) (x7_1 : Int), v7 = .int .i64 x7_1 ∧ Aside0 (spec_LaterPushes.l0 kq l0 a1 x6_1 x7_1 = some (r1, r2)) ∧ Aside0 (kq ≤ k) ∧ Aside0 (Kd.R k120 120 w' w.heap.size (fun _ => True) v6 x6_1) ∧ Aside0 (Below w.heap.size w w'))
      case atStart => exact ⟨(y123), (0), (by first | rfl | (simp; done) | (simp [*]; done) | (exact congrArg (Value.int .i64) (wrap_eq (by omega)))), H', ⟨Nat.le_refl _⟩, ⟨by (with_reducible repeat (first | apply Kd.R_alloc | apply Kd.R_drewN | apply Kd.R_drew)); exact HO125.out⟩, ⟨by repeat (first | (with_reducible first | exact HB.out | apply below_alloc | apply pw_below_drewN | apply below_drew1) | exact HB.out)⟩⟩
      case round =>
        clear H'
        try clear p2
        try clear c3
        try clear c4
        try clear c5
        try clear c5b0
        try clear c5b1
        try clear c9
        obtain ⟨x6_1, x7_1, rfl, HA, HK1, HO_6, HB⟩ := hrel
        cases gk with
        | zero => exact absurd HA.out (by simp [spec_LaterPushes.l0])
        | succ k1 =>
          have H := HA.out
          clear HA
          simp only [spec_LaterPushes.l0] at H
          by_cases c10 : x7_1 < (l0.length : Int)
          · rw [if_pos c10] at H
            have c10b0 : decide (x7_1 < (l0.length : Int)) = true := decide_eq_true c10
            clear c10
            by_cases c11 : 0 ≤ x7_1
            · rw [if_pos c11] at H
              have c11b0 : decide (0 ≤ x7_1) = true := decide_eq_true c11
              clear c11
              replace H := Option.bind_eq_some_iff.mp H
              obtain ⟨t128, A120, H⟩ := H
              replace H : (if t128 = true then ((spec_l00In.f (wrap64 ((wrap64 ((rd_T120 l0 x7_1).f2)) + a1)) 0 1000).bind fun t129 => (if t129 = true then (if x6_1.length < 23456248059221 then (spec_LaterPushes.l0 k1 l0 a1 (x6_1 ++ [(⟨(⟨(rd_T120 l0 x7_1).f0.f0, (rd_T120 l0 x7_1).f0.f1⟩ : S74), (rd_T120 l0 x7_1).f1, IntKind.i16.wrap (wrap64 ((wrap64 ((rd_T120 l0 x7_1).f2)) + a1))⟩ : S120)]) (wrap64 (x7_1 + 1))) else (none)) else (some ((([] : List (S120))), 3)))) else (some ((([] : List (S120))), 3))) = some (r1, r2) := H
              have A12 := Aside0.mk A120
              clear A120
              by_cases c13 : t128 = true
              · subst c13
                have H1 : ((spec_l00In.f (wrap64 ((wrap64 ((rd_T120 l0 x7_1).f2)) + a1)) 0 1000).bind fun t129 => (if t129 = true then (if x6_1.length < 23456248059221 then (spec_LaterPushes.l0 k1 l0 a1 (x6_1 ++ [(⟨(⟨(rd_T120 l0 x7_1).f0.f0, (rd_T120 l0 x7_1).f0.f1⟩ : S74), (rd_T120 l0 x7_1).f1, IntKind.i16.wrap (wrap64 ((wrap64 ((rd_T120 l0 x7_1).f2)) + a1))⟩ : S120)]) (wrap64 (x7_1 + 1))) else (none)) else (some ((([] : List (S120))), 3)))) = some (r1, r2) := by rw [if_pos rfl] at H; exact H
                clear H
                have H := H1
                clear H1
                replace H := Option.bind_eq_some_iff.mp H
                obtain ⟨t129, A140, H⟩ := H
                replace H : (if t129 = true then (if x6_1.length < 23456248059221 then (spec_LaterPushes.l0 k1 l0 a1 (x6_1 ++ [(⟨(⟨(rd_T120 l0 x7_1).f0.f0, (rd_T120 l0 x7_1).f0.f1⟩ : S74), (rd_T120 l0 x7_1).f1, IntKind.i16.wrap (wrap64 ((wrap64 ((rd_T120 l0 x7_1).f2)) + a1))⟩ : S120)]) (wrap64 (x7_1 + 1))) else (none)) else (some ((([] : List (S120))), 3))) = some (r1, r2) := H
                have A14 := Aside0.mk A140
                clear A140
                by_cases c15 : t129 = true
                · subst c15
                  have H1 : (if x6_1.length < 23456248059221 then (spec_LaterPushes.l0 k1 l0 a1 (x6_1 ++ [(⟨(⟨(rd_T120 l0 x7_1).f0.f0, (rd_T120 l0 x7_1).f0.f1⟩ : S74), (rd_T120 l0 x7_1).f1, IntKind.i16.wrap (wrap64 ((wrap64 ((rd_T120 l0 x7_1).f2)) + a1))⟩ : S120)]) (wrap64 (x7_1 + 1))) else (none)) = some (r1, r2) := by rw [if_pos rfl] at H; exact H
                  clear H
                  have H := H1
                  clear H1
                  by_cases c16 : x6_1.length < 23456248059221
                  · rw [if_pos c16] at H
                    have LMc16 := Aside0.mk c16
                    clear c16
                    obtain ⟨y130, hy130⟩ : ∃ y_ : List (S120), y_ = (x6_1 ++ [(⟨(⟨(rd_T120 l0 x7_1).f0.f0, (rd_T120 l0 x7_1).f0.f1⟩ : S74), (rd_T120 l0 x7_1).f1, IntKind.i16.wrap (wrap64 ((wrap64 ((rd_T120 l0 x7_1).f2)) + a1))⟩ : S120)]) := ⟨_, rfl⟩
                    replace H : (spec_LaterPushes.l0 k1 l0 a1 y130 (wrap64 (x7_1 + 1))) = some (r1, r2) := by first | (rw [hy130]; with_reducible exact H) | (have H2_ := (Option.bind_some _ _).symm.trans H; rw [hy130]; with_reducible exact H2_) | (have H2_ := (Option.bind_some _ _).symm.trans H; with_reducible exact H2_) | with_reducible exact H | (rw [hy130]; exact H) | exact H
                    have Ny130 := Aside0.mk hy130
                    clear hy130
                    have H' := Aside0.mk H
                    clear H
                    have p126 : 0 ≤ (x7_1 : Int) := of_decide_eq_true (by first | (with_reducible assumption) | assumption)
                    have q126 : x7_1 < (l0.length : Int) := of_decide_eq_true (by first | (with_reducible assumption) | assumption)
                    obtain ⟨ad126, e126, hx126_0, hx126_1, hx126_2, hx126_3⟩ := at_T120 HR0.out x7_1 p126 q126
                    cases e126
                    replace hx126_0 := (HB.out.cell (World.block_lt_of_cell? w _ hx126_0)).trans hx126_0
                    replace hx126_1 := (HB.out.cell (World.block_lt_of_cell? w _ hx126_1)).trans hx126_1
                    replace hx126_2 := (HB.out.cell (World.block_lt_of_cell? w _ hx126_2)).trans hx126_2
                    replace hx126_3 := (HB.out.cell (World.block_lt_of_cell? w _ hx126_3)).trans hx126_3
                    replace p126 := eq_true p126
                    replace q126 := eq_true q126
                    go_wp2_with (first | ((with_reducible refine gate_dst (N := 8) rfl ?_); refine box_event ?hg (N := 8) ?hd (cs := #[.int .i8 0, .int .i8 0, .int .i8 0, .int .i16 0]) (t := 120) ?hr ?_; (case hd => rfl); (case hg => rfl); (case hr => first | (go_simp; done) | (go_simp; rfl)); intro gb127 hg w17 hbox hb; have n0_ := Aside0.mk (Kd.R_below (Kd.R_elderB (by (with_reducible repeat (first | apply Kd.R_alloc | apply Kd.R_drewN | apply Kd.R_drew)); exact HO_6.out) gb127 (Nat.le_of_eq hg.symm)) hb); have n1_ := Aside0.mk (below_step (by repeat (first | (with_reducible first | exact HB.out | apply below_alloc | apply pw_below_drewN | apply below_drew1) | exact HB.out)) hb); have n2_ := Aside0.mk (hbox); have n3_ := Aside0.mk ((by rw [hg]; exact (below_size (by repeat (first | (with_reducible first | exact HB.out | apply below_alloc | apply pw_below_drewN | apply below_drew1) | exact HB.out))) : w.heap.size ≤ gb127)); have n4_ := Aside0.mk ((by rw [hg]; exact (below_size (by repeat (first | (with_reducible first | exact HB.out | apply below_alloc | apply pw_below_drewN | apply below_drew1) | exact HB.out))) : w.heap.size ≤ gb127)); clear HO_6; clear HB; have HO_6 := n0_; have HB := n1_; have BK127 := n2_; have GW127 := n3_; have GE127 := n4_; clear n0_ n1_ n2_ n3_ n4_; clear hb hbox hg; have hcz18_0 : w17.cell? ⟨gb127, 0, none⟩ = some (.int .i8 0) := (blk_cell BK127.out 0).trans rfl; have hcz18_1 : w17.cell? ⟨gb127, 1, none⟩ = some (.int .i8 0) := (blk_cell BK127.out 1).trans rfl; have hcz18_2 : w17.cell? ⟨gb127, 2, none⟩ = some (.int .i8 0) := (blk_cell BK127.out 2).trans rfl; have hcz18_3 : w17.cell? ⟨gb127, 3, none⟩ = some (.int .i16 0) := (blk_cell BK127.out 3).trans rfl; have hfz18_0 := blk_frozen BK127.out 0; have hfz18_1 := blk_frozen BK127.out 1; have hfz18_2 := blk_frozen BK127.out 2; have hfz18_3 := blk_frozen BK127.out 3) | ((with_reducible refine gate_callee (f := 96) rfl ?_); refine goesL_ (some 37) rfl rfl Try.func96 (by kernel_rfl) rfl #[.int .i64 (wrap64 ((rd_T120 l0 x7_1).f2)), .int .i64 0, .int .i64 1000] rfl (by (try simp only [List.map_toArray, List.map_cons, List.map_nil]); first | done | rfl | (simp only [List.length_drop, List.length_take]; rfl)) ?_; (with_reducible refine (spec_l00In.calls (wrap64 ((rd_T120 l0 x7_1).f2)) 0 1000 true _ A12.out).mono ?_); rintro e w' ⟨rfl, ⟨nd, rfl⟩⟩; refine ⟨_, rfl, ?_⟩) | (go_at_call 96; (with_reducible refine (spec_l00In.calls (wrap64 ((wrap64 ((rd_T120 l0 x7_1).f2)) + a1)) 0 1000 true _ A14.out).mono ?_); rintro e w' ⟨rfl, ⟨nd, rfl⟩⟩) | ((with_reducible refine gate_builtin (b := .append) (xs := #[.tmp 48, .tmp 50]) rfl ?_); at_builtin; refine Kd.R_append k120 (w0 := w) w.heap.size rfl (.tmp 48) (.tmp 50) 32 120 (.agg #[(.int .i8 0), (.int .i8 0), (.int .i8 0), (.int .i16 0)]) 6 rfl Try.underlying32 info120 rfl (by decide) (by omega) u6 x6_1 (⟨(⟨(rd_T120 l0 x7_1).f0.f0, (rd_T120 l0 x7_1).f0.f1⟩ : S74), (rd_T120 l0 x7_1).f1, IntKind.i16.wrap (wrap64 ((wrap64 ((rd_T120 l0 x7_1).f2)) + a1))⟩ : S120) [.int .i8 ((rd_T120 l0 x7_1).f0.f0), .int .i8 ((rd_T120 l0 x7_1).f0.f1), .int .i8 ((rd_T120 l0 x7_1).f1), .int .i16 (IntKind.i16.wrap (wrap64 ((wrap64 ((rd_T120 l0 x7_1).f2)) + a1)))] (fun k_ => k_ ≠ gb127) (fun _ => False) rfl (by first | (go_simp; done) | (go_simp; rfl)) ?aP (fun _ hk => hk.elim) ?aF ?aO ?aB ?aS ?aL ?_; (case aP => exact k120_mkM _ _ _ (⟨(⟨(rd_T120 l0 x7_1).f0.f0, (rd_T120 l0 x7_1).f0.f1⟩ : S74), (rd_T120 l0 x7_1).f1, IntKind.i16.wrap (wrap64 ((wrap64 ((rd_T120 l0 x7_1).f2)) + a1))⟩ : S120)); (case aB => exact (by repeat (first | (with_reducible first | exact HB.out | apply below_alloc | apply pw_below_drewN | apply below_drew1 | refine below_set ?_ GE127.out) | exact HB.out))); (case aF => exact (fun k_ hk => Kd.freshB (g := gb127) (o := .cells #[.int .i8 ((rd_T120 l0 x7_1).f0.f0), .int .i8 ((rd_T120 l0 x7_1).f0.f1), .int .i8 ((rd_T120 l0 x7_1).f1), .int .i16 (IntKind.i16.wrap (wrap64 ((wrap64 ((rd_T120 l0 x7_1).f2)) + a1)))] 120 (0, 0)) (by (with_reducible repeat (first | refine blk_drewN ?_ _ | refine blk_drew ?_ | refine blk_alloc ?_ _)); refine blk_put (cs := #[.int .i8 ((rd_T120 l0 x7_1).f0.f0), .int .i8 ((rd_T120 l0 x7_1).f0.f1), .int .i8 ((rd_T120 l0 x7_1).f1), .int .i16 ((rd_T120 l0 x7_1).f2)]) ?_ 3 _ rfl; (with_reducible repeat (first | refine blk_drewN ?_ _ | refine blk_drew ?_ | refine blk_alloc ?_ _)); refine blk_put (cs := #[.int .i8 ((rd_T120 l0 x7_1).f0.f0), .int .i8 ((rd_T120 l0 x7_1).f0.f1), .int .i8 ((rd_T120 l0 x7_1).f1), .int .i16 0]) ?_ 3 _ rfl; (with_reducible repeat (first | refine blk_drewN ?_ _ | refine blk_drew ?_ | refine blk_alloc ?_ _)); refine blk_put (cs := #[.int .i8 ((rd_T120 l0 x7_1).f0.f0), .int .i8 ((rd_T120 l0 x7_1).f0.f1), .int .i8 0, .int .i16 0]) ?_ 2 _ rfl; (with_reducible repeat (first | refine blk_drewN ?_ _ | refine blk_drew ?_ | refine blk_alloc ?_ _)); refine blk_put (cs := #[.int .i8 ((rd_T120 l0 x7_1).f0.f0), .int .i8 0, .int .i8 0, .int .i16 0]) ?_ 1 _ rfl; (with_reducible repeat (first | refine blk_drewN ?_ _ | refine blk_drew ?_ | refine blk_alloc ?_ _)); refine blk_put (cs := #[.int .i8 0, .int .i8 0, .int .i8 0, .int .i16 0]) ?_ 0 _ rfl; (with_reducible repeat (first | refine blk_drewN ?_ _ | refine blk_drew ?_ | refine blk_alloc ?_ _)); exact BK127.out) k_ hk)); (case aO => exact (by (with_reducible repeat (first | apply Kd.R_alloc | apply Kd.R_drewN | apply Kd.R_drew)); exact Kd.R_mono (Kd.R_far (p := ⟨gb127, 3, none⟩) (Kd.R_far (p := ⟨gb127, 3, none⟩) (Kd.R_far (p := ⟨gb127, 2, none⟩) (Kd.R_far (p := ⟨gb127, 1, none⟩) (Kd.R_far (p := ⟨gb127, 0, none⟩) (Kd.R_mono HO_6.out (fun k_ hk => (⟨hk, hk.2⟩ : _ ∧ k_ ≠ gb127))) (fun _ hk => hk.2) (.int .i8 ((rd_T120 l0 x7_1).f0.f0))) (fun _ hk => hk.2) (.int .i8 ((rd_T120 l0 x7_1).f0.f1))) (fun _ hk => hk.2) (.int .i8 ((rd_T120 l0 x7_1).f1))) (fun _ hk => hk.2) (.int .i16 ((rd_T120 l0 x7_1).f2))) (fun _ hk => hk.2) (.int .i16 (IntKind.i16.wrap (wrap64 ((wrap64 ((rd_T120 l0 x7_1).f2)) + a1))))) (fun _ hk => hk.1.2))); (case aS => exact (below_size (by repeat (first | (with_reducible first | exact HB.out | apply below_alloc | apply pw_below_drewN | apply below_drew1 | refine below_set ?_ GE127.out) | exact HB.out)))); (case aL => have := LMc16.out; omega); intro v131 w19 ho hb hg hat; rw [← Ny130.out] at ho; have n0_ := Aside0.mk (blk_grown (g := gb127) (o := .cells #[.int .i8 ((rd_T120 l0 x7_1).f0.f0), .int .i8 ((rd_T120 l0 x7_1).f0.f1), .int .i8 ((rd_T120 l0 x7_1).f1), .int .i16 (IntKind.i16.wrap (wrap64 ((wrap64 ((rd_T120 l0 x7_1).f2)) + a1)))] 120 (0, 0)) (by (with_reducible repeat (first | refine blk_drewN ?_ _ | refine blk_drew ?_ | refine blk_alloc ?_ _)); refine blk_put (cs := #[.int .i8 ((rd_T120 l0 x7_1).f0.f0), .int .i8 ((rd_T120 l0 x7_1).f0.f1), .int .i8 ((rd_T120 l0 x7_1).f1), .int .i16 ((rd_T120 l0 x7_1).f2)]) ?_ 3 _ rfl; (with_reducible repeat (first | refine blk_drewN ?_ _ | refine blk_drew ?_ | refine blk_alloc ?_ _)); refine blk_put (cs := #[.int .i8 ((rd_T120 l0 x7_1).f0.f0), .int .i8 ((rd_T120 l0 x7_1).f0.f1), .int .i8 ((rd_T120 l0 x7_1).f1), .int .i16 0]) ?_ 3 _ rfl; (with_reducible repeat (first | refine blk_drewN ?_ _ | refine blk_drew ?_ | refine blk_alloc ?_ _)); refine blk_put (cs := #[.int .i8 ((rd_T120 l0 x7_1).f0.f0), .int .i8 ((rd_T120 l0 x7_1).f0.f1), .int .i8 0, .int .i16 0]) ?_ 2 _ rfl; (with_reducible repeat (first | refine blk_drewN ?_ _ | refine blk_drew ?_ | refine blk_alloc ?_ _)); refine blk_put (cs := #[.int .i8 ((rd_T120 l0 x7_1).f0.f0), .int .i8 0, .int .i8 0, .int .i16 0]) ?_ 1 _ rfl; (with_reducible repeat (first | refine blk_drewN ?_ _ | refine blk_drew ?_ | refine blk_alloc ?_ _)); refine blk_put (cs := #[.int .i8 0, .int .i8 0, .int .i8 0, .int .i16 0]) ?_ 0 _ rfl; (with_reducible repeat (first | refine blk_drewN ?_ _ | refine blk_drew ?_ | refine blk_alloc ?_ _)); exact BK127.out) hg (Kd.R_away HO_6.out (fun _ hk => hk.2))); have n1_ := Aside0.mk (hb); have n2_ := Aside0.mk (ho); clear BK127; clear HB; clear HO_6; have BK127 := n0_; have HB := n1_; have HO132 := n2_; clear n0_ n1_ n2_; clear ho hb hg hat))
                    go_roundg k1
                    case measure => have := HK1.out; omega
                    case rel => exact ⟨(y130), (wrap64 (x7_1 + 1)), (by first | rfl | (simp; done) | (simp [*]; done) | (exact congrArg (Value.int .i64) (wrap_eq (by omega)))), H', ⟨by have := HK1.out; omega⟩, ⟨by (with_reducible repeat (first | apply Kd.R_alloc | apply Kd.R_drewN | apply Kd.R_drew)); exact Kd.R_mono HO132.out (fun _ hk => trivial)⟩, ⟨by repeat (first | (with_reducible first | exact HB.out | apply below_alloc | apply pw_below_drewN | apply below_drew1 | refine below_set ?_ GE127.out) | exact HB.out)⟩⟩
                  · rw [if_neg c16] at H
                    exact absurd H (by simp)
                · replace c15 := Bool.eq_false_iff.mpr c15
                  subst c15
                  have H1 : (some ((([] : List (S120))), 3)) = some (r1, r2) := by rw [if_neg (show ¬ (false = true) by decide)] at H; exact H
                  clear H
                  have H := H1
                  clear H1
                  obtain ⟨y133, hy133⟩ : ∃ y_ : List (S120), y_ = (([] : List (S120))) := ⟨_, rfl⟩
                  replace H : (some (y133, 3)) = some (r1, r2) := by first | (rw [hy133]; with_reducible exact H) | (have H2_ := (Option.bind_some _ _).symm.trans H; rw [hy133]; with_reducible exact H2_) | (have H2_ := (Option.bind_some _ _).symm.trans H; with_reducible exact H2_) | with_reducible exact H | (rw [hy133]; exact H) | exact H
                  have Ny133 := Aside0.mk hy133
                  clear hy133
                  simp only [Option.some.injEq, Prod.mk.injEq] at H
                  obtain ⟨rfl, rfl⟩ := H
                  have p126 : 0 ≤ (x7_1 : Int) := of_decide_eq_true (by first | (with_reducible assumption) | assumption)
                  have q126 : x7_1 < (l0.length : Int) := of_decide_eq_true (by first | (with_reducible assumption) | assumption)
                  obtain ⟨ad126, e126, hx126_0, hx126_1, hx126_2, hx126_3⟩ := at_T120 HR0.out x7_1 p126 q126
                  cases e126
                  replace hx126_0 := (HB.out.cell (World.block_lt_of_cell? w _ hx126_0)).trans hx126_0
                  replace hx126_1 := (HB.out.cell (World.block_lt_of_cell? w _ hx126_1)).trans hx126_1
                  replace hx126_2 := (HB.out.cell (World.block_lt_of_cell? w _ hx126_2)).trans hx126_2
                  replace hx126_3 := (HB.out.cell (World.block_lt_of_cell? w _ hx126_3)).trans hx126_3
                  replace p126 := eq_true p126
                  replace q126 := eq_true q126
                  go_wp2_with (first | ((with_reducible refine gate_dst (N := 8) rfl ?_); refine box_event ?hg (N := 8) ?hd (cs := #[.int .i8 0, .int .i8 0, .int .i8 0, .int .i16 0]) (t := 120) ?hr ?_; (case hd => rfl); (case hg => rfl); (case hr => first | (go_simp; done) | (go_simp; rfl)); intro gb127 hg w20 hbox hb; have n0_ := Aside0.mk (Kd.R_below (Kd.R_elderB (by (with_reducible repeat (first | apply Kd.R_alloc | apply Kd.R_drewN | apply Kd.R_drew)); exact HO_6.out) gb127 (Nat.le_of_eq hg.symm)) hb); have n1_ := Aside0.mk (below_step (by repeat (first | (with_reducible first | exact HB.out | apply below_alloc | apply pw_below_drewN | apply below_drew1) | exact HB.out)) hb); have n2_ := Aside0.mk (hbox); have n3_ := Aside0.mk ((by rw [hg]; exact (below_size (by repeat (first | (with_reducible first | exact HB.out | apply below_alloc | apply pw_below_drewN | apply below_drew1) | exact HB.out))) : w.heap.size ≤ gb127)); have n4_ := Aside0.mk ((by rw [hg]; exact (below_size (by repeat (first | (with_reducible first | exact HB.out | apply below_alloc | apply pw_below_drewN | apply below_drew1) | exact HB.out))) : w.heap.size ≤ gb127)); clear HO_6; clear HB; have HO_6 := n0_; have HB := n1_; have BK127 := n2_; have GW127 := n3_; have GE127 := n4_; clear n0_ n1_ n2_ n3_ n4_; clear hb hbox hg; have hcz21_0 : w20.cell? ⟨gb127, 0, none⟩ = some (.int .i8 0) := (blk_cell BK127.out 0).trans rfl; have hcz21_1 : w20.cell? ⟨gb127, 1, none⟩ = some (.int .i8 0) := (blk_cell BK127.out 1).trans rfl; have hcz21_2 : w20.cell? ⟨gb127, 2, none⟩ = some (.int .i8 0) := (blk_cell BK127.out 2).trans rfl; have hcz21_3 : w20.cell? ⟨gb127, 3, none⟩ = some (.int .i16 0) := (blk_cell BK127.out 3).trans rfl; have hfz21_0 := blk_frozen BK127.out 0; have hfz21_1 := blk_frozen BK127.out 1; have hfz21_2 := blk_frozen BK127.out 2; have hfz21_3 := blk_frozen BK127.out 3) | ((with_reducible refine gate_callee (f := 96) rfl ?_); refine goesL_ (some 37) rfl rfl Try.func96 (by kernel_rfl) rfl #[.int .i64 (wrap64 ((rd_T120 l0 x7_1).f2)), .int .i64 0, .int .i64 1000] rfl (by (try simp only [List.map_toArray, List.map_cons, List.map_nil]); first | done | rfl | (simp only [List.length_drop, List.length_take]; rfl)) ?_; (with_reducible refine (spec_l00In.calls (wrap64 ((rd_T120 l0 x7_1).f2)) 0 1000 true _ A12.out).mono ?_); rintro e w' ⟨rfl, ⟨nd, rfl⟩⟩; refine ⟨_, rfl, ?_⟩) | (go_at_call 96; (with_reducible refine (spec_l00In.calls (wrap64 ((wrap64 ((rd_T120 l0 x7_1).f2)) + a1)) 0 1000 false _ A14.out).mono ?_); rintro e w' ⟨rfl, ⟨nd, rfl⟩⟩) | ((with_reducible refine gate_dst (N := 44) rfl ?_); refine Kd.R_lit k120 _ 120 ?hg (N := 44) ?hd (xs := ([] : List (S120))) (inner := []) (ok := fun _ => True) (okp := fun _ => True) ?hr ?hp (fun _ hk => hk) trivial (Below.refl _ _) (Nat.le_refl _) (by simp) ?_; (case hd => rfl); (case hg => rfl); (case hr => first | (go_simp; done) | (go_simp; rfl)); (case hp => exact (Reps.none _ _)); intro v134 w22 ho23 hb hg_ hnew_; clear hg_ hnew_; (first | rw [← Ny133.out] at ho23 | (simp only [Int.reduceToNat] at ho23; rw [← Ny133.out] at ho23)); have n0_ := Aside0.mk (Kd.R_elder' (by (with_reducible repeat (first | apply Kd.R_alloc | apply Kd.R_drewN | apply Kd.R_drew)); exact (Kd.R_mono (Kd.R_far (p := ⟨gb127, 3, none⟩) (Kd.R_far (p := ⟨gb127, 2, none⟩) (Kd.R_far (p := ⟨gb127, 1, none⟩) (Kd.R_far (p := ⟨gb127, 0, none⟩) (Kd.R_mono HO_6.out (fun k_ hk => (⟨hk, hk.2⟩ : _ ∧ k_ ≠ gb127))) (fun _ hk => hk.2) (.int .i8 ((rd_T120 l0 x7_1).f0.f0))) (fun _ hk => hk.2) (.int .i8 ((rd_T120 l0 x7_1).f0.f1))) (fun _ hk => hk.2) (.int .i8 ((rd_T120 l0 x7_1).f1))) (fun _ hk => hk.2) (.int .i16 ((rd_T120 l0 x7_1).f2))) (fun _ h_ => h_.1))) (Kd.R_base ho23) hb); have n1_ := Aside0.mk (Kd.R_lower (Kd.R_newB (Kd.R_new' ho23 (Kd.R_lt (by (with_reducible repeat (first | apply Kd.R_alloc | apply Kd.R_drewN | apply Kd.R_drew)); exact (Kd.R_mono (Kd.R_far (p := ⟨gb127, 3, none⟩) (Kd.R_far (p := ⟨gb127, 2, none⟩) (Kd.R_far (p := ⟨gb127, 1, none⟩) (Kd.R_far (p := ⟨gb127, 0, none⟩) (Kd.R_mono HO_6.out (fun k_ hk => (⟨hk, hk.2⟩ : _ ∧ k_ ≠ gb127))) (fun _ hk => hk.2) (.int .i8 ((rd_T120 l0 x7_1).f0.f0))) (fun _ hk => hk.2) (.int .i8 ((rd_T120 l0 x7_1).f0.f1))) (fun _ hk => hk.2) (.int .i8 ((rd_T120 l0 x7_1).f1))) (fun _ hk => hk.2) (.int .i16 ((rd_T120 l0 x7_1).f2))) (fun _ h_ => h_.1))))) (g := gb127) (o := .cells #[.int .i8 ((rd_T120 l0 x7_1).f0.f0), .int .i8 ((rd_T120 l0 x7_1).f0.f1), .int .i8 ((rd_T120 l0 x7_1).f1), .int .i16 ((rd_T120 l0 x7_1).f2)] 120 (0, 0)) (by (with_reducible repeat (first | refine blk_drewN ?_ _ | refine blk_drew ?_ | refine blk_alloc ?_ _)); refine blk_put (cs := #[.int .i8 ((rd_T120 l0 x7_1).f0.f0), .int .i8 ((rd_T120 l0 x7_1).f0.f1), .int .i8 ((rd_T120 l0 x7_1).f1), .int .i16 0]) ?_ 3 _ rfl; (with_reducible repeat (first | refine blk_drewN ?_ _ | refine blk_drew ?_ | refine blk_alloc ?_ _)); refine blk_put (cs := #[.int .i8 ((rd_T120 l0 x7_1).f0.f0), .int .i8 ((rd_T120 l0 x7_1).f0.f1), .int .i8 0, .int .i16 0]) ?_ 2 _ rfl; (with_reducible repeat (first | refine blk_drewN ?_ _ | refine blk_drew ?_ | refine blk_alloc ?_ _)); refine blk_put (cs := #[.int .i8 ((rd_T120 l0 x7_1).f0.f0), .int .i8 0, .int .i8 0, .int .i16 0]) ?_ 1 _ rfl; (with_reducible repeat (first | refine blk_drewN ?_ _ | refine blk_drew ?_ | refine blk_alloc ?_ _)); refine blk_put (cs := #[.int .i8 0, .int .i8 0, .int .i8 0, .int .i16 0]) ?_ 0 _ rfl; (with_reducible repeat (first | refine blk_drewN ?_ _ | refine blk_drew ?_ | refine blk_alloc ?_ _)); exact BK127.out)) (below_size (by repeat (first | (with_reducible first | exact HB.out | apply below_alloc | apply pw_below_drewN | apply below_drew1 | refine below_set ?_ GE127.out) | exact HB.out)))); have n2_ := Aside0.mk (blk_below (g := gb127) (o := .cells #[.int .i8 ((rd_T120 l0 x7_1).f0.f0), .int .i8 ((rd_T120 l0 x7_1).f0.f1), .int .i8 ((rd_T120 l0 x7_1).f1), .int .i16 ((rd_T120 l0 x7_1).f2)] 120 (0, 0)) (by (with_reducible repeat (first | refine blk_drewN ?_ _ | refine blk_drew ?_ | refine blk_alloc ?_ _)); refine blk_put (cs := #[.int .i8 ((rd_T120 l0 x7_1).f0.f0), .int .i8 ((rd_T120 l0 x7_1).f0.f1), .int .i8 ((rd_T120 l0 x7_1).f1), .int .i16 0]) ?_ 3 _ rfl; (with_reducible repeat (first | refine blk_drewN ?_ _ | refine blk_drew ?_ | refine blk_alloc ?_ _)); refine blk_put (cs := #[.int .i8 ((rd_T120 l0 x7_1).f0.f0), .int .i8 ((rd_T120 l0 x7_1).f0.f1), .int .i8 0, .int .i16 0]) ?_ 2 _ rfl; (with_reducible repeat (first | refine blk_drewN ?_ _ | refine blk_drew ?_ | refine blk_alloc ?_ _)); refine blk_put (cs := #[.int .i8 ((rd_T120 l0 x7_1).f0.f0), .int .i8 0, .int .i8 0, .int .i16 0]) ?_ 1 _ rfl; (with_reducible repeat (first | refine blk_drewN ?_ _ | refine blk_drew ?_ | refine blk_alloc ?_ _)); refine blk_put (cs := #[.int .i8 0, .int .i8 0, .int .i8 0, .int .i16 0]) ?_ 0 _ rfl; (with_reducible repeat (first | refine blk_drewN ?_ _ | refine blk_drew ?_ | refine blk_alloc ?_ _)); exact BK127.out) hb); have n3_ := Aside0.mk (below_step (by repeat (first | (with_reducible first | exact HB.out | apply below_alloc | apply pw_below_drewN | apply below_drew1 | refine below_set ?_ GE127.out) | exact HB.out)) hb); clear HO_6; clear BK127; clear HB; have HO_6 := n0_; have HO135 := n1_; have BK127 := n2_; have HB := n3_; clear n0_ n1_ n2_ n3_; clear hb ho23))
                  go_ret2
                  exact ⟨_, by first | rfl | (simp [errW_none, errW_some] <;> rfl) | (simp [*, errW_none, errW_some] <;> rfl), by (with_reducible repeat (first | apply Kd.R_alloc | apply Kd.R_drewN | apply Kd.R_drew)); exact Kd.R_mono HO135.out (fun _ hk => trivial), by repeat (first | (with_reducible first | exact HB.out | apply below_alloc | apply pw_below_drewN | apply below_drew1 | refine below_set ?_ GE127.out) | exact HB.out)⟩
              · replace c13 := Bool.eq_false_iff.mpr c13
                subst c13
                have H1 : (some ((([] : List (S120))), 3)) = some (r1, r2) := by rw [if_neg (show ¬ (false = true) by decide)] at H; exact H
                clear H
                have H := H1
                clear H1
                obtain ⟨y136, hy136⟩ : ∃ y_ : List (S120), y_ = (([] : List (S120))) := ⟨_, rfl⟩
                replace H : (some (y136, 3)) = some (r1, r2) := by first | (rw [hy136]; with_reducible exact H) | (have H2_ := (Option.bind_some _ _).symm.trans H; rw [hy136]; with_reducible exact H2_) | (have H2_ := (Option.bind_some _ _).symm.trans H; with_reducible exact H2_) | with_reducible exact H | (rw [hy136]; exact H) | exact H
                have Ny136 := Aside0.mk hy136
                clear hy136
                simp only [Option.some.injEq, Prod.mk.injEq] at H
                obtain ⟨rfl, rfl⟩ := H
                have p126 : 0 ≤ (x7_1 : Int) := of_decide_eq_true (by first | (with_reducible assumption) | assumption)
                have q126 : x7_1 < (l0.length : Int) := of_decide_eq_true (by first | (with_reducible assumption) | assumption)
                obtain ⟨ad126, e126, hx126_0, hx126_1, hx126_2, hx126_3⟩ := at_T120 HR0.out x7_1 p126 q126
                cases e126
                replace hx126_0 := (HB.out.cell (World.block_lt_of_cell? w _ hx126_0)).trans hx126_0
                replace hx126_1 := (HB.out.cell (World.block_lt_of_cell? w _ hx126_1)).trans hx126_1
                replace hx126_2 := (HB.out.cell (World.block_lt_of_cell? w _ hx126_2)).trans hx126_2
                replace hx126_3 := (HB.out.cell (World.block_lt_of_cell? w _ hx126_3)).trans hx126_3
                replace p126 := eq_true p126
                replace q126 := eq_true q126
                go_wp2_with (first | ((with_reducible refine gate_dst (N := 8) rfl ?_); refine box_event ?hg (N := 8) ?hd (cs := #[.int .i8 0, .int .i8 0, .int .i8 0, .int .i16 0]) (t := 120) ?hr ?_; (case hd => rfl); (case hg => rfl); (case hr => first | (go_simp; done) | (go_simp; rfl)); intro gb127 hg w24 hbox hb; have n0_ := Aside0.mk (Kd.R_below (Kd.R_elderB (by (with_reducible repeat (first | apply Kd.R_alloc | apply Kd.R_drewN | apply Kd.R_drew)); exact HO_6.out) gb127 (Nat.le_of_eq hg.symm)) hb); have n1_ := Aside0.mk (below_step (by repeat (first | (with_reducible first | exact HB.out | apply below_alloc | apply pw_below_drewN | apply below_drew1) | exact HB.out)) hb); have n2_ := Aside0.mk (hbox); have n3_ := Aside0.mk ((by rw [hg]; exact (below_size (by repeat (first | (with_reducible first | exact HB.out | apply below_alloc | apply pw_below_drewN | apply below_drew1) | exact HB.out))) : w.heap.size ≤ gb127)); have n4_ := Aside0.mk ((by rw [hg]; exact (below_size (by repeat (first | (with_reducible first | exact HB.out | apply below_alloc | apply pw_below_drewN | apply below_drew1) | exact HB.out))) : w.heap.size ≤ gb127)); clear HO_6; clear HB; have HO_6 := n0_; have HB := n1_; have BK127 := n2_; have GW127 := n3_; have GE127 := n4_; clear n0_ n1_ n2_ n3_ n4_; clear hb hbox hg; have hcz25_0 : w24.cell? ⟨gb127, 0, none⟩ = some (.int .i8 0) := (blk_cell BK127.out 0).trans rfl; have hcz25_1 : w24.cell? ⟨gb127, 1, none⟩ = some (.int .i8 0) := (blk_cell BK127.out 1).trans rfl; have hcz25_2 : w24.cell? ⟨gb127, 2, none⟩ = some (.int .i8 0) := (blk_cell BK127.out 2).trans rfl; have hcz25_3 : w24.cell? ⟨gb127, 3, none⟩ = some (.int .i16 0) := (blk_cell BK127.out 3).trans rfl; have hfz25_0 := blk_frozen BK127.out 0; have hfz25_1 := blk_frozen BK127.out 1; have hfz25_2 := blk_frozen BK127.out 2; have hfz25_3 := blk_frozen BK127.out 3) | ((with_reducible refine gate_callee (f := 96) rfl ?_); refine goesL_ (some 37) rfl rfl Try.func96 (by kernel_rfl) rfl #[.int .i64 (wrap64 ((rd_T120 l0 x7_1).f2)), .int .i64 0, .int .i64 1000] rfl (by (try simp only [List.map_toArray, List.map_cons, List.map_nil]); first | done | rfl | (simp only [List.length_drop, List.length_take]; rfl)) ?_; (with_reducible refine (spec_l00In.calls (wrap64 ((rd_T120 l0 x7_1).f2)) 0 1000 false _ A12.out).mono ?_); rintro e w' ⟨rfl, ⟨nd, rfl⟩⟩; refine ⟨_, rfl, ?_⟩) | ((with_reducible refine gate_dst (N := 44) rfl ?_); refine Kd.R_lit k120 _ 120 ?hg (N := 44) ?hd (xs := ([] : List (S120))) (inner := []) (ok := fun _ => True) (okp := fun _ => True) ?hr ?hp (fun _ hk => hk) trivial (Below.refl _ _) (Nat.le_refl _) (by simp) ?_; (case hd => rfl); (case hg => rfl); (case hr => first | (go_simp; done) | (go_simp; rfl)); (case hp => exact (Reps.none _ _)); intro v137 w26 ho27 hb hg_ hnew_; clear hg_ hnew_; (first | rw [← Ny136.out] at ho27 | (simp only [Int.reduceToNat] at ho27; rw [← Ny136.out] at ho27)); have n0_ := Aside0.mk (Kd.R_elder' (by (with_reducible repeat (first | apply Kd.R_alloc | apply Kd.R_drewN | apply Kd.R_drew)); exact (Kd.R_mono (Kd.R_far (p := ⟨gb127, 3, none⟩) (Kd.R_far (p := ⟨gb127, 2, none⟩) (Kd.R_far (p := ⟨gb127, 1, none⟩) (Kd.R_far (p := ⟨gb127, 0, none⟩) (Kd.R_mono HO_6.out (fun k_ hk => (⟨hk, hk.2⟩ : _ ∧ k_ ≠ gb127))) (fun _ hk => hk.2) (.int .i8 ((rd_T120 l0 x7_1).f0.f0))) (fun _ hk => hk.2) (.int .i8 ((rd_T120 l0 x7_1).f0.f1))) (fun _ hk => hk.2) (.int .i8 ((rd_T120 l0 x7_1).f1))) (fun _ hk => hk.2) (.int .i16 ((rd_T120 l0 x7_1).f2))) (fun _ h_ => h_.1))) (Kd.R_base ho27) hb); have n1_ := Aside0.mk (Kd.R_lower (Kd.R_newB (Kd.R_new' ho27 (Kd.R_lt (by (with_reducible repeat (first | apply Kd.R_alloc | apply Kd.R_drewN | apply Kd.R_drew)); exact (Kd.R_mono (Kd.R_far (p := ⟨gb127, 3, none⟩) (Kd.R_far (p := ⟨gb127, 2, none⟩) (Kd.R_far (p := ⟨gb127, 1, none⟩) (Kd.R_far (p := ⟨gb127, 0, none⟩) (Kd.R_mono HO_6.out (fun k_ hk => (⟨hk, hk.2⟩ : _ ∧ k_ ≠ gb127))) (fun _ hk => hk.2) (.int .i8 ((rd_T120 l0 x7_1).f0.f0))) (fun _ hk => hk.2) (.int .i8 ((rd_T120 l0 x7_1).f0.f1))) (fun _ hk => hk.2) (.int .i8 ((rd_T120 l0 x7_1).f1))) (fun _ hk => hk.2) (.int .i16 ((rd_T120 l0 x7_1).f2))) (fun _ h_ => h_.1))))) (g := gb127) (o := .cells #[.int .i8 ((rd_T120 l0 x7_1).f0.f0), .int .i8 ((rd_T120 l0 x7_1).f0.f1), .int .i8 ((rd_T120 l0 x7_1).f1), .int .i16 ((rd_T120 l0 x7_1).f2)] 120 (0, 0)) (by (with_reducible repeat (first | refine blk_drewN ?_ _ | refine blk_drew ?_ | refine blk_alloc ?_ _)); refine blk_put (cs := #[.int .i8 ((rd_T120 l0 x7_1).f0.f0), .int .i8 ((rd_T120 l0 x7_1).f0.f1), .int .i8 ((rd_T120 l0 x7_1).f1), .int .i16 0]) ?_ 3 _ rfl; (with_reducible repeat (first | refine blk_drewN ?_ _ | refine blk_drew ?_ | refine blk_alloc ?_ _)); refine blk_put (cs := #[.int .i8 ((rd_T120 l0 x7_1).f0.f0), .int .i8 ((rd_T120 l0 x7_1).f0.f1), .int .i8 0, .int .i16 0]) ?_ 2 _ rfl; (with_reducible repeat (first | refine blk_drewN ?_ _ | refine blk_drew ?_ | refine blk_alloc ?_ _)); refine blk_put (cs := #[.int .i8 ((rd_T120 l0 x7_1).f0.f0), .int .i8 0, .int .i8 0, .int .i16 0]) ?_ 1 _ rfl; (with_reducible repeat (first | refine blk_drewN ?_ _ | refine blk_drew ?_ | refine blk_alloc ?_ _)); refine blk_put (cs := #[.int .i8 0, .int .i8 0, .int .i8 0, .int .i16 0]) ?_ 0 _ rfl; (with_reducible repeat (first | refine blk_drewN ?_ _ | refine blk_drew ?_ | refine blk_alloc ?_ _)); exact BK127.out)) (below_size (by repeat (first | (with_reducible first | exact HB.out | apply below_alloc | apply pw_below_drewN | apply below_drew1 | refine below_set ?_ GE127.out) | exact HB.out)))); have n2_ := Aside0.mk (blk_below (g := gb127) (o := .cells #[.int .i8 ((rd_T120 l0 x7_1).f0.f0), .int .i8 ((rd_T120 l0 x7_1).f0.f1), .int .i8 ((rd_T120 l0 x7_1).f1), .int .i16 ((rd_T120 l0 x7_1).f2)] 120 (0, 0)) (by (with_reducible repeat (first | refine blk_drewN ?_ _ | refine blk_drew ?_ | refine blk_alloc ?_ _)); refine blk_put (cs := #[.int .i8 ((rd_T120 l0 x7_1).f0.f0), .int .i8 ((rd_T120 l0 x7_1).f0.f1), .int .i8 ((rd_T120 l0 x7_1).f1), .int .i16 0]) ?_ 3 _ rfl; (with_reducible repeat (first | refine blk_drewN ?_ _ | refine blk_drew ?_ | refine blk_alloc ?_ _)); refine blk_put (cs := #[.int .i8 ((rd_T120 l0 x7_1).f0.f0), .int .i8 ((rd_T120 l0 x7_1).f0.f1), .int .i8 0, .int .i16 0]) ?_ 2 _ rfl; (with_reducible repeat (first | refine blk_drewN ?_ _ | refine blk_drew ?_ | refine blk_alloc ?_ _)); refine blk_put (cs := #[.int .i8 ((rd_T120 l0 x7_1).f0.f0), .int .i8 0, .int .i8 0, .int .i16 0]) ?_ 1 _ rfl; (with_reducible repeat (first | refine blk_drewN ?_ _ | refine blk_drew ?_ | refine blk_alloc ?_ _)); refine blk_put (cs := #[.int .i8 0, .int .i8 0, .int .i8 0, .int .i16 0]) ?_ 0 _ rfl; (with_reducible repeat (first | refine blk_drewN ?_ _ | refine blk_drew ?_ | refine blk_alloc ?_ _)); exact BK127.out) hb); have n3_ := Aside0.mk (below_step (by repeat (first | (with_reducible first | exact HB.out | apply below_alloc | apply pw_below_drewN | apply below_drew1 | refine below_set ?_ GE127.out) | exact HB.out)) hb); clear HO_6; clear BK127; clear HB; have HO_6 := n0_; have HO138 := n1_; have BK127 := n2_; have HB := n3_; clear n0_ n1_ n2_ n3_; clear hb ho27))
                go_ret2
                exact ⟨_, by first | rfl | (simp [errW_none, errW_some] <;> rfl) | (simp [*, errW_none, errW_some] <;> rfl), by (with_reducible repeat (first | apply Kd.R_alloc | apply Kd.R_drewN | apply Kd.R_drew)); exact Kd.R_mono HO138.out (fun _ hk => trivial), by repeat (first | (with_reducible first | exact HB.out | apply below_alloc | apply pw_below_drewN | apply below_drew1 | refine below_set ?_ GE127.out) | exact HB.out)⟩
            · rw [if_neg c11] at H
              exact absurd H (by simp)
          · rw [if_neg c10] at H
            have c10b0 : decide (x7_1 < (l0.length : Int)) = false := decide_eq_false c10
            clear c10
            simp only [Option.some.injEq, Prod.mk.injEq] at H
            obtain ⟨rfl, rfl⟩ := H
            go_wp2
            go_ret2
            exact ⟨_, by first | rfl | (simp [errW_none, errW_some] <;> rfl) | (simp [*, errW_none, errW_some] <;> rfl), by (with_reducible repeat (first | apply Kd.R_alloc | apply Kd.R_drewN | apply Kd.R_drew)); exact HO_6.out, by repeat (first | (with_reducible first | exact HB.out | apply below_alloc | apply pw_below_drewN | apply below_drew1) | exact HB.out)⟩
  · replace c4 := Bool.eq_false_iff.mpr c4
    subst c4
    have H1 : (some ((([] : List (S120))), 2)) = some (r1, r2) := by rw [if_neg (show ¬ (false = true) by decide)] at H; exact H
    clear H
    have H := H1
    clear H1
    obtain ⟨y117, hy117⟩ : ∃ y_ : List (S120), y_ = (([] : List (S120))) := ⟨_, rfl⟩
    replace H : (some (y117, 2)) = some (r1, r2) := by first | (rw [hy117]; with_reducible exact H) | (have H2_ := (Option.bind_some _ _).symm.trans H; rw [hy117]; with_reducible exact H2_) | (have H2_ := (Option.bind_some _ _).symm.trans H; with_reducible exact H2_) | with_reducible exact H | (rw [hy117]; exact H) | exact H
    have Ny117 := Aside0.mk hy117
    clear hy117
    simp only [Option.some.injEq, Prod.mk.injEq] at H
    obtain ⟨rfl, rfl⟩ := H
    go_enter Try.func34, Try.ntmps34
    go_wp2_with (first | ((with_reducible refine gate_callee (f := 96) rfl ?_); refine goesL_ (some 11) rfl rfl Try.func96 (by kernel_rfl) rfl #[.int .i64 a1, .int .i64 (-1000), .int .i64 1000] rfl (by (try simp only [List.map_toArray, List.map_cons, List.map_nil]); first | done | rfl | (simp only [List.length_drop, List.length_take]; rfl)) ?_; (with_reducible refine (spec_l00In.calls a1 (-1000) 1000 false _ A3.out).mono ?_); rintro e w' ⟨rfl, ⟨nd, rfl⟩⟩; refine ⟨_, rfl, ?_⟩) | ((with_reducible refine gate_dst (N := 13) rfl ?_); refine Kd.R_lit k120 _ 120 ?hg (N := 13) ?hd (xs := ([] : List (S120))) (inner := []) (ok := fun _ => True) (okp := fun _ => True) ?hr ?hp (fun _ hk => hk) trivial (Below.refl _ _) (Nat.le_refl _) (by simp) ?_; (case hd => rfl); (case hg => rfl); (case hr => first | (go_simp; done) | (go_simp; rfl)); (case hp => exact (Reps.none _ _)); intro v118 w28 ho29 hb hg_ hnew_; clear hg_ hnew_; (first | rw [← Ny117.out] at ho29 | (simp only [Int.reduceToNat] at ho29; rw [← Ny117.out] at ho29)); have n0_ := Aside0.mk (Kd.R_lower ho29 (below_size (by repeat (first | (with_reducible first | exact HB.out | apply below_alloc | apply pw_below_drewN | apply below_drew1) | exact HB.out)))); have n1_ := Aside0.mk (below_step (by repeat (first | (with_reducible first | exact HB.out | apply below_alloc | apply pw_below_drewN | apply below_drew1) | exact HB.out)) hb); clear HB; have HO119 := n0_; have HB := n1_; clear n0_ n1_; clear hb ho29))
    go_ret2
    exact ⟨_, by first | rfl | (simp [errW_none, errW_some] <;> rfl) | (simp [*, errW_none, errW_some] <;> rfl), by (with_reducible repeat (first | apply Kd.R_alloc | apply Kd.R_drewN | apply Kd.R_drew)); exact HO119.out, by repeat (first | (with_reducible first | exact HB.out | apply below_alloc | apply pw_below_drewN | apply below_drew1) | exact HB.out)⟩

end Go.Proofs.Ytffnfpnajkgnaaa.PFnExactLaterPushes
