-- WRITTEN by xprint.py, a program of this session's. Not trusted: Lean checks it.
-- packed by pack.py
import Derived.Test.YtdjhcnepndflmaaPFnExactTakePiecex0
import Derived.Test.YtdjhcnepndflmaaPFnExactTakePiecex2
import Derived.Test.YtdjhcnepndflmaaPFnExactTakePiecex3
import Derived.Test.YtdjhcnepndflmaaTFnExactTakePiecea
namespace Go.Proofs.Ytdjhcnepndflmaa.PFnExactTakePiece
open Go.RowKit Go.Proofs.YtdjhcnepndflmaaW.PrintWords Go.Proofs.YtdjhcnepndflmaaW.PrintLast Go.Proofs.YtdjhcnepndflmaaW.PrintMore Go.Proofs.YtdjhcnepndflmaaX
attribute [local go_sem] max2_int min2_int max_two min_two max_three min_three max_four min_four   -- for this text's walks alone
set_option maxHeartbeats 8000000
set_option maxRecDepth 100000
set_option linter.unusedVariables false
set_option linter.unusedSimpArgs false

def spec_l01Copy.f (l0 : List (S30)) : Option (Int × Int × (List (S62))) := if 0 < (l0.length : Int) then ((some (([] : List (S62)) : List (S62))).bind fun y136 => (if y136.length + ((rd_T30 l0 0).f2).length < 28147497671065 then (some ((rd_T30 l0 0).f0, (rd_T30 l0 0).f1, (y136 ++ ((rd_T30 l0 0).f2)))) else (none))) else (none)
def spec_l01Copy.T1 : Bool × List (List Nat × List Nat) := (true, [([], []), ([0], [0]), ([1], [1]), ([2], [2]), ([], []), ([4], [4]), ([5], [5]), ([6], [6]), ([], []), ([], []), ([9], [9]), ([10], [10]), ([11], [11]), ([8, 12], [8, 12]), ([3, 7, 13], [3, 7, 13]), ([14, 13, 0, 1, 2, 3, 4, 5, 6, 7, 8, 9, 10, 11, 12, 13, 14], [14])])
def spec_l01Copy.B1 : List Nat := [0, 1, 3, 7, 0, 16, 48, 112, 0, 0, 512, 1536, 3584, 7936, 16383, 32767]
theorem spec_l01Copy.tab1 : rtab .any (opsOf Try.f27 1) = spec_l01Copy.T1 := by kernel_rfl
theorem spec_l01Copy.bits1 : waitsOk spec_l01Copy.T1.2 spec_l01Copy.B1 = true := by kernel_rfl
theorem spec_l01Copy.calls (adp0 : Addr) (l0 : List (S30)) (r1 : Int) (r2 : Int) (r3 : List (S62)) (w : World) (hr0 : Kd.C k30 w (some adp0) l0.length l0) (h : spec_l01Copy.f l0 = some (r1, r2, r3)) :
    Calls Try.prog 27 #[.pointer (some adp0)] w fun e w' => ∃ v2_ : Value, e = .returned (.agg #[.int .i8 r1, .int .i8 r2, v2_]) ∧ Kd.R k62 62 w' w.heap.size (fun _ => True) v2_ r3 ∧ Below w.heap.size w w' := by
 have hu30 := Try.underlying30
 have HR0 := Aside0.mk hr0
 clear hr0
 have HB := Aside0.mk (Below.refl w.heap.size w)
 have H : (if 0 < (l0.length : Int) then ((some (([] : List (S62)) : List (S62))).bind fun y136 => (if y136.length + ((rd_T30 l0 0).f2).length < 28147497671065 then (some ((rd_T30 l0 0).f0, (rd_T30 l0 0).f1, (y136 ++ ((rd_T30 l0 0).f2)))) else (none))) else (none)) = some (r1, r2, r3) := h
 clear h
 by_cases c2 : 0 < (l0.length : Int)
 rotate_left
 ·rw [if_neg c2] at H
  exact absurd H (by simp)
 rw [if_pos c2] at H
 have c2b0 : decide (0 < (l0.length : Int)) = true := decide_eq_true c2
 have c2b1 : decide (0 < l0.length) = true := decide_eq_true (by omega)
 clear c2
 obtain ⟨y136, hy136⟩ : ∃ y_ : List (S62), y_ = (([] : List (S62))) := ⟨_, rfl⟩
 replace H : (if y136.length + ((rd_T30 l0 0).f2).length < 28147497671065 then (some ((rd_T30 l0 0).f0, (rd_T30 l0 0).f1, (y136 ++ ((rd_T30 l0 0).f2)))) else (none)) = some (r1, r2, r3) := by first | (rw [hy136]; with_reducible exact H) | (have H2_ := (Option.bind_some _ _).symm.trans H; rw [hy136]; with_reducible exact H2_) | (have H2_ := (Option.bind_some _ _).symm.trans H; with_reducible exact H2_) | with_reducible exact H | (rw [hy136]; exact H) | exact H
 have Ny136 := Aside0.mk hy136
 clear hy136
 by_cases c3 : y136.length + ((rd_T30 l0 0).f2).length < 28147497671065
 rotate_left
 ·rw [if_neg c3] at H
  exact absurd H (by simp)
 rw [if_pos c3] at H
 have LMc3 := Aside0.mk c3
 clear c3
 obtain ⟨y140, hy140⟩ : ∃ y_ : List (S62), y_ = (y136 ++ ((rd_T30 l0 0).f2)) := ⟨_, rfl⟩
 replace H : (some ((rd_T30 l0 0).f0, (rd_T30 l0 0).f1, y140)) = some (r1, r2, r3) := by first | (rw [hy140]; with_reducible exact H) | (have H2_ := (Option.bind_some _ _).symm.trans H; rw [hy140]; with_reducible exact H2_) | (have H2_ := (Option.bind_some _ _).symm.trans H; with_reducible exact H2_) | with_reducible exact H | (rw [hy140]; exact H) | exact H
 have Ny140 := Aside0.mk hy140
 clear hy140
 simp only [Option.some.injEq, Prod.mk.injEq] at H
 obtain ⟨rfl, rfl, rfl⟩ := H
 go_enter Try.func27, Try.ntmps27
 try go_wp2_with (first | ((with_reducible refine gate_dst (N := 2) rfl ?_); refine zbx 2 #[.int .i8 0, .int .i8 0, .slice none 0 0] 30 ?_; intro gb133 hg w4 hbox hb; have n_ : _ ∧ _ ∧ _ ∧ _ := ⟨zb HB hb, Aside0.mk (hbox), zg HB hg, zg HB hg⟩; clear HB; obtain ⟨HB, BK133, GW133, GE133⟩ := n_; clear hb hbox hg))
 have n_ : _ ∧ _ := ⟨Aside0.mk (blk_drew BK133.out), Aside0.mk (below_drew1 HB.out)⟩
 clear BK133 HB
 obtain ⟨BK133, HB⟩ := n_
 have p134 : 0 ≤ (0 : Int) := (by omega)
 have q134 : 0 < (l0.length : Int) := of_decide_eq_true zA
 obtain ⟨ad134, A134_2, c134_2, e134, hx134_0, hx134_1, hx134_2, hl134_2, hi134_2⟩ := at_T30 HR0.out 0 p134 q134
 have hw134_2 := hx134_2
 try simp only [z00, Nat.zero_mul, Addr.add_zero'] at hw134_2
 have hw134_1 := hx134_1
 try simp only [z00, Nat.zero_mul, Addr.add_zero'] at hw134_1
 have hw134_0 := hx134_0
 try simp only [z00, Nat.zero_mul, Addr.add_zero'] at hw134_0
 obtain rfl : adp0 = ad134 := (by injection e134)
 have qi134 : (0 < l0.length) = True := eq_true (by omega)
 try simp only [z00, Nat.zero_mul, Addr.add_zero'] at hx134_0 hx134_1 hx134_2
 replace hx134_0 := zc HB hx134_0
 replace hx134_1 := zc HB hx134_1
 replace hx134_2 := zc HB hx134_2
 have HR134_2 := Aside0.mk hi134_2
 have HC134_2 := Aside0.mk hl134_2
 clear hi134_2 hl134_2
 replace p134 := eq_true p134
 replace q134 := eq_true q134
 have p135 : 0 ≤ (0 : Int) := (by omega)
 have q135 : 0 < (l0.length : Int) := of_decide_eq_true zA
 obtain ⟨ad135, A135_2, c135_2, e135, hx135_0, hx135_1, hx135_2, hl135_2, hi135_2⟩ := at_T30 HR0.out 0 p135 q135
 have hw135_2 := hx135_2
 try simp only [z00, Nat.zero_mul, Addr.add_zero'] at hw135_2
 have hw135_1 := hx135_1
 try simp only [z00, Nat.zero_mul, Addr.add_zero'] at hw135_1
 have hw135_0 := hx135_0
 try simp only [z00, Nat.zero_mul, Addr.add_zero'] at hw135_0
 obtain rfl : adp0 = ad135 := (by injection e135)
 have qi135 : (0 < l0.length) = True := eq_true (by omega)
 try simp only [z00, Nat.zero_mul, Addr.add_zero'] at hx135_0 hx135_1 hx135_2
 replace hx135_0 := zc HB hx135_0
 replace hx135_1 := zc HB hx135_1
 replace hx135_2 := zc HB hx135_2
 have HR135_2 := Aside0.mk hi135_2
 have HC135_2 := Aside0.mk hl135_2
 clear hi135_2 hl135_2
 replace p135 := eq_true p135
 replace q135 := eq_true q135
 have ea_ := Option.some.inj (hx134_2.symm.trans hx135_2)
 injection ea_ with ea_ en_ ec_
 subst ea_
 subst ec_
 clear en_
 have p139 : 0 ≤ (0 : Int) := (by omega)
 have q139 : 0 < (l0.length : Int) := of_decide_eq_true zA
 obtain ⟨ad139, A139_2, c139_2, e139, hx139_0, hx139_1, hx139_2, hl139_2, hi139_2⟩ := at_T30 HR0.out 0 p139 q139
 have hw139_2 := hx139_2
 try simp only [z00, Nat.zero_mul, Addr.add_zero'] at hw139_2
 have hw139_1 := hx139_1
 try simp only [z00, Nat.zero_mul, Addr.add_zero'] at hw139_1
 have hw139_0 := hx139_0
 try simp only [z00, Nat.zero_mul, Addr.add_zero'] at hw139_0
 obtain rfl : adp0 = ad139 := (by injection e139)
 have qi139 : (0 < l0.length) = True := eq_true (by omega)
 try simp only [z00, Nat.zero_mul, Addr.add_zero'] at hx139_0 hx139_1 hx139_2
 replace hx139_0 := zc HB hx139_0
 replace hx139_1 := zc HB hx139_1
 replace hx139_2 := zc HB hx139_2
 have HR139_2 := Aside0.mk hi139_2
 have HC139_2 := Aside0.mk hl139_2
 clear hi139_2 hl139_2
 replace p139 := eq_true p139
 replace q139 := eq_true q139
 have ea_ := Option.some.inj (hx134_2.symm.trans hx139_2)
 injection ea_ with ea_ en_ ec_
 subst ea_
 subst ec_
 clear en_
 refine start_ (n := 16) (S := fun w' => w'.cell? adp0 = some (.int .i8 ((rd_T30 l0 0).f0)) ∧ w'.cell? ⟨adp0.block, adp0.off + 1, none⟩ = some (.int .i8 ((rd_T30 l0 0).f1)) ∧ w'.cell? ⟨adp0.block, adp0.off + 2, none⟩ = some (.slice A134_2 ((rd_T30 l0 0).f2).length c134_2) ∧ w'.cell? adp0 = some (.int .i8 ((rd_T30 l0 0).f0)) ∧ w'.cell? ⟨adp0.block, adp0.off + 1, none⟩ = some (.int .i8 ((rd_T30 l0 0).f1)) ∧ w'.cell? ⟨adp0.block, adp0.off + 2, none⟩ = some (.slice A134_2 ((rd_T30 l0 0).f2).length c134_2) ∧ w'.cell? adp0 = some (.int .i8 ((rd_T30 l0 0).f0)) ∧ w'.cell? ⟨adp0.block, adp0.off + 1, none⟩ = some (.int .i8 ((rd_T30 l0 0).f1)) ∧ w'.cell? ⟨adp0.block, adp0.off + 2, none⟩ = some (.slice A134_2 ((rd_T30 l0 0).f2).length c134_2)) (ds := []) (zq 16 0) (by kernel_rfl) rfl rfl ⟨(zc HB hw134_0), (zc HB hw134_1), (zc HB hw134_2), (zc HB hw135_0), (zc HB hw135_1), (zc HB hw135_2), (zc HB hw139_0), (zc HB hw139_1), (zc HB hw139_2)⟩ (fun hHeld => ?_); refine with_tabW spec_l01Copy.tab1 spec_l01Copy.bits1 (fun HT_ HW_ => ?_)
 generalize w4.drew = w5 at BK133 HB HR134_2 HR135_2 HR139_2 hx134_0 hx134_1 hx134_2 hx135_0 hx135_1 hx135_2 hx139_0 hx139_1 hx139_2 hHeld ⊢
 refine zpu 0 (some 3) (zq 16 1) HT_ ?_
 refine zpu 1 (some 4) (zq 16 3) HT_ ?_
 refine zpu 2 (some 5) (zq 16 7) HT_ ?_
 refine zpu 4 (some 7) (zq 16 23) HT_ ?_
 refine zpu 5 (some 8) (zq 16 55) HT_ ?_
 refine zpu 6 (some 9) (zq 16 119) HT_ ?_
 refine zpu 9 (some 12) (zq 16 631) HT_ ?_
 refine zpu 10 (some 13) (zq 16 1655) HT_ ?_
 refine zpu 11 (some 14) (zq 16 3703) HT_ ?_
 refine ztk 3 (some 6) (zq 16 3711) HT_ HW_ rfl hHeld (Or.inl ⟨by rfl, by (rintro w' ⟨s0, s1, s2, s3, s4, s5, s6, s7, s8⟩; go_simp; with_reducible rfl)⟩) ?_
 refine ztk 7 (some 10) (zq 16 3839) HT_ HW_ rfl hHeld (Or.inl ⟨by rfl, by (rintro w' ⟨s0, s1, s2, s3, s4, s5, s6, s7, s8⟩; go_simp; with_reducible rfl)⟩) ?_
 refine ztk 12 (some 15) (zq 16 7935) HT_ HW_ rfl hHeld (Or.inl ⟨by rfl, by (rintro w' ⟨s0, s1, s2, s3, s4, s5, s6, s7, s8⟩; go_simp; with_reducible rfl)⟩) ?_
 refine one_ (i := 8) (N := some 11) (zq 16 8191) rfl rfl (one_of HT_.out (by kernel_rfl)) (by decide) (fun K hK => ?_)
 refine Kd.R_lit_step k62 _ 62 ?hg (N := 11) ?hd (xs := ([] : List (S62))) (inner := []) (ok := fun _ => True) (okp := fun _ => True) ?hr ?hp (fun _ hk => hk) trivial (Below.refl _ _) (Nat.le_refl _) (by simp) ?_; (case hd => rfl); (case hg => rfl); (case hr => exact zgs); (case hp => exact (Reps.none _ _))
 intro v137 w6 ho7 hb hg_ hnew_
 clear hg_ hnew_
 (first | rw [← Ny136.out] at ho7 | (simp only [Int.reduceToNat] at ho7; rw [← Ny136.out] at ho7))
 have n_ : _ ∧ _ ∧ _ := ⟨Aside0.mk (Kd.R_lower ho7 (zz HB)), zk BK133 hb, zbs hb⟩
 clear BK133 HB
 obtain ⟨HO138, BK133, HB⟩ := n_
 clear hb ho7
 refine hK.out _ _ ⟨(zc HB hw134_0), (zc HB hw134_1), (zc HB hw134_2), (zc HB hw135_0), (zc HB hw135_1), (zc HB hw135_2), (zc HB hw139_0), (zc HB hw139_1), (zc HB hw139_2)⟩ (fun hHeld => ?_)
 clear hK K
 refine norm_ (a' := ?_) ?_ ?_
 rotate_left
 ·show Act.put _ (some 11) _ = _
  exact zap
 refine one_ (i := 13) (N := some 16) (zq 16 16383) rfl rfl (one_of HT_.out (by kernel_rfl)) (by decide) (fun K hK => ?_)
 refine Kd.R_append_rows_step k62 (w0 := w) w.heap.size (by rfl) (.tmp 11) (.tmp 15) 28 62 (.agg #[(.int .i8 0), (.int .i8 0), (.int .i8 0), (.int .i8 0), (.int .i8 0)]) 5 rfl Try.underlying28 info62 rfl (by decide) (by omega) v137 y136 ((rd_T30 l0 0).f2) _ _ _ (fun _ => True) (fun _ => False) rfl rfl ?aO ?aR (fun _ _ h => h) (fun _ h => h.elim) ?aF ?aB ?aS ?aL ?_
 (case aR => exact zcc HB HR139_2.out)
 (case aB => exact zbo)
 (case aF => exact (fun _ _ => trivial))
 (case aO => exact (ze HO138).out)
 (case aS => exact (zz HB))
 (case aL => have := LMc3.out; omega)
 intro v141 w8 ho hb hg hat
 rw [← Ny140.out] at ho
 have n_ : _ ∧ _ ∧ _ := ⟨Aside0.mk (blk_grown (g := gb133) (o := .cells #[.int .i8 0, .int .i8 0, .slice none 0 0] 30 (0, 0)) (zh BK133).out hg (Kd.R_ne HO138.out BK133.out (by decide))), Aside0.mk (hb), Aside0.mk (ho)⟩
 clear BK133 HB HO138
 obtain ⟨BK133, HB, HO142⟩ := n_
 clear ho hb hg hat
 obtain ⟨Ao9, co9, eo9⟩ := Kd.R_slice HO142.out
 (first | subst eo9 | (injection eo9 with f1_ f2_ f3_; have f4_ := f1_.symm; have f5_ := f3_.symm; clear f1_ f2_ f3_; subst f4_; subst f5_))
 refine hK.out _ _ ⟨(zc HB hw134_0), (zc HB hw134_1), (zc HB hw134_2), (zc HB hw135_0), (zc HB hw135_1), (zc HB hw135_2), (zc HB hw139_0), (zc HB hw139_1), (zc HB hw139_2)⟩ (fun hHeld => ?_)
 clear hK K
 refine norm_ (a' := ?_) ?_ ?_
 rotate_left
 ·show Act.put _ (some 16) _ = _
  exact zap
 refine zpu 14 (some 17) (zq 16 32767) HT_ ?_
 refine one_ (i := 15) (N := none) (zq 16 65535) rfl rfl (one_of HT_.out (by kernel_rfl)) (by decide) (fun K hK => ?_)
 have hs10 : w8.cell? ⟨gb133, 0, none⟩ = some (.int .i8 0) := (blk_cell BK133.out 0).trans rfl
 have hfs10 := blk_frozen BK133.out 0
 have hs11 : w8.cell? ⟨gb133, 1, none⟩ = some (.int .i8 0) := (blk_cell BK133.out 1).trans rfl
 have hfs11 := blk_frozen BK133.out 1
 have hs12 : w8.cell? ⟨gb133, 2, none⟩ = some (.slice none 0 0) := (blk_cell BK133.out 2).trans rfl
 have hfs12 := blk_frozen BK133.out 2
 refine skip_ (w1 := ?_) (by rfl) rfl ?_ ?_
 rotate_left
 ·go_simp
  rfl
 refine hK.out _ _ ⟨(zcf hw134_0 GW133 ((zcf hw134_0 GW133 ((zcf hw134_0 GW133 (hHeld.1)))))), (zcf hw134_1 GW133 ((zcf hw134_1 GW133 ((zcf hw134_1 GW133 (hHeld.2.1)))))), (zcf hw134_2 GW133 ((zcf hw134_2 GW133 ((zcf hw134_2 GW133 (hHeld.2.2.1)))))), (zcf hw135_0 GW133 ((zcf hw135_0 GW133 ((zcf hw135_0 GW133 (hHeld.2.2.2.1)))))), (zcf hw135_1 GW133 ((zcf hw135_1 GW133 ((zcf hw135_1 GW133 (hHeld.2.2.2.2.1)))))), (zcf hw135_2 GW133 ((zcf hw135_2 GW133 ((zcf hw135_2 GW133 (hHeld.2.2.2.2.2.1)))))), (zcf hw139_0 GW133 ((zcf hw139_0 GW133 ((zcf hw139_0 GW133 (hHeld.2.2.2.2.2.2.1)))))), (zcf hw139_1 GW133 ((zcf hw139_1 GW133 ((zcf hw139_1 GW133 (hHeld.2.2.2.2.2.2.2.1)))))), (zcf hw139_2 GW133 ((zcf hw139_2 GW133 ((zcf hw139_2 GW133 (hHeld.2.2.2.2.2.2.2.2))))))⟩ (fun hHeld => ?_)
 clear hK K
 refine done_ (done_of HT_.out (by kernel_rfl)) ?_
 try go_wp2
 refine bodyPost_ret (results_cell_row rfl _ _ gb133 30 #[.int .i8 ((rd_T30 l0 0).f0), .int .i8 ((rd_T30 l0 0).f1), .slice Ao9 y140.length co9] (0, 0) _ rfl (zp BK133) Try.underlying30 rfl (by kernel_rfl)) rfl ?_
 exact ⟨_, zv, Kd.R_mono (zs HO142 BK133).out (fun _ hk => trivial), zbo⟩
def spec_TakePiece.f (k : Nat) (a0_0 : Int) (a0_1 : Int) (l0_2 : List (S62)) (a1_0 : Int) (a1_1 : Int) : Option (Int × Int × (List (S62)) × Int) := (spec_l01Ok.f k [(⟨a0_0, a0_1, l0_2⟩ : S30)]).bind fun t146 => (if t146 = true then ((spec_l01Find.f k [(⟨a0_0, a0_1, l0_2⟩ : S30)] a1_0 a1_1).bind fun t147 => (if t147 < 0 then (some (0, 0, ([] : List (S62)), 6)) else ((spec_l01Copy.f [(⟨a0_0, a0_1, l0_2⟩ : S30)]).bind fun bt148 => ((if t147 ≤ (bt148.2.2.length : Int) then some (bt148.2.2.take t147.toNat) else none).bind fun y154 => (if 0 ≤ (wrap64 (t147 + 1)) then (if (wrap64 (t147 + 1)) ≤ (l0_2.length : Int) then ((some (l0_2.drop ((wrap64 (t147 + 1)) : Int).toNat : List (S62))).bind fun y157 => (if y154.length + y157.length < 28147497671065 then (some (bt148.1, bt148.2.1, (y154 ++ y157), 0)) else (none))) else (none)) else (none)))))) else (some (0, 0, ([] : List (S62)), 1)))
theorem spec_TakePiece.mono : ∀ a0 a1 a2 a3 a4 k, LeO (spec_TakePiece.f k a0 a1 a2 a3 a4) (spec_TakePiece.f (k + 1) a0 a1 a2 a3 a4) := by
 intro a0 a1 a2 a3 a4 k
 unfold spec_TakePiece.f
 repeat' first | (with_reducible first | apply spec_l01Find.mono | apply spec_l01Ok.mono | exact LeO.refl _ | exact LeO.none _ | refine LeO.ite ?_ ?_ | refine LeO.bind ?_ (fun _ => ?_)) | apply spec_l01Find.mono | apply spec_l01Ok.mono | exact LeO.none _ | refine LeO.ite ?_ ?_ | refine LeO.bind ?_ (fun _ => ?_)
def spec_TakePiece.T7 : Bool × List (List Nat × List Nat) := (true, [([], []), ([0], [0]), ([], []), ([1, 2], [1, 2]), ([], []), ([4], [4]), ([], []), ([6], [6]), ([5, 7], [5, 7]), ([3, 8], [3, 8]), ([0, 1, 2, 3, 4, 5, 6, 7, 8, 9], []), ([10, 9, 9, 0, 1, 2, 3, 4, 5, 6, 7, 8, 9], [9, 10])])
def spec_TakePiece.B7 : List Nat := [0, 1, 0, 7, 0, 16, 0, 64, 240, 511, 1023, 2047]
theorem spec_TakePiece.tab7 : rtab .any (opsOf Try.f7 7) = spec_TakePiece.T7 := by kernel_rfl
theorem spec_TakePiece.bits7 : waitsOk spec_TakePiece.T7.2 spec_TakePiece.B7 = true := by kernel_rfl
theorem spec_TakePiece.calls (k : Nat) (a0_0 : Int) (a0_1 : Int) (A0_2 : Option Addr) (c0_2 : Nat) (l0_2 : List (S62)) (a1_0 : Int) (a1_1 : Int) (r1 : Int) (r2 : Int) (r3 : List (S62)) (r4 : Int) (w : World) (hr0_2 : Kd.C k62 w A0_2 l0_2.length l0_2) (hc0_2 : l0_2.length ≤ c0_2) (h : spec_TakePiece.f k a0_0 a0_1 l0_2 a1_0 a1_1 = some (r1, r2, r3, r4)) :
    Calls Try.prog 7 #[.agg #[.int .i8 a0_0, .int .i8 a0_1, .slice A0_2 l0_2.length c0_2], .agg #[.int .i8 a1_0, .int .i8 a1_1]] w fun e w' => ∃ v2_ : Value, e = .returned (.tuple #[.agg #[.int .i8 r1, .int .i8 r2, v2_], .int .i64 r4]) ∧ Kd.R k62 62 w' w.heap.size (fun _ => True) v2_ r3 ∧ Below w.heap.size w w' := by
 have hu30 := Try.underlying30
 have hu34 := Try.underlying34
 have HR0_2 := Aside0.mk hr0_2
 have HC0_2 := Aside0.mk hc0_2
 clear hr0_2 hc0_2
 have HB := Aside0.mk (Below.refl w.heap.size w)
 have H : ((spec_l01Ok.f k [(⟨a0_0, a0_1, l0_2⟩ : S30)]).bind fun t146 => (if t146 = true then ((spec_l01Find.f k [(⟨a0_0, a0_1, l0_2⟩ : S30)] a1_0 a1_1).bind fun t147 => (if t147 < 0 then (some (0, 0, ([] : List (S62)), 6)) else ((spec_l01Copy.f [(⟨a0_0, a0_1, l0_2⟩ : S30)]).bind fun bt148 => ((if t147 ≤ (bt148.2.2.length : Int) then some (bt148.2.2.take t147.toNat) else none).bind fun y154 => (if 0 ≤ (wrap64 (t147 + 1)) then (if (wrap64 (t147 + 1)) ≤ (l0_2.length : Int) then ((some (l0_2.drop ((wrap64 (t147 + 1)) : Int).toNat : List (S62))).bind fun y157 => (if y154.length + y157.length < 28147497671065 then (some (bt148.1, bt148.2.1, (y154 ++ y157), 0)) else (none))) else (none)) else (none)))))) else (some (0, 0, ([] : List (S62)), 1)))) = some (r1, r2, r3, r4) := h
 clear h
 replace H := zob H
 obtain ⟨t146, A30, H⟩ := H
 replace H : (if t146 = true then ((spec_l01Find.f k [(⟨a0_0, a0_1, l0_2⟩ : S30)] a1_0 a1_1).bind fun t147 => (if t147 < 0 then (some (0, 0, ([] : List (S62)), 6)) else ((spec_l01Copy.f [(⟨a0_0, a0_1, l0_2⟩ : S30)]).bind fun bt148 => ((if t147 ≤ (bt148.2.2.length : Int) then some (bt148.2.2.take t147.toNat) else none).bind fun y154 => (if 0 ≤ (wrap64 (t147 + 1)) then (if (wrap64 (t147 + 1)) ≤ (l0_2.length : Int) then ((some (l0_2.drop ((wrap64 (t147 + 1)) : Int).toNat : List (S62))).bind fun y157 => (if y154.length + y157.length < 28147497671065 then (some (bt148.1, bt148.2.1, (y154 ++ y157), 0)) else (none))) else (none)) else (none)))))) else (some (0, 0, ([] : List (S62)), 1))) = some (r1, r2, r3, r4) := H
 have A3 := Aside0.mk A30
 clear A30
 by_cases c4 : t146 = true
 rotate_left
 ·replace c4 := Bool.eq_false_iff.mpr c4
  subst c4
  have H1 : (some (0, 0, ([] : List (S62)), 1)) = some (r1, r2, r3, r4) := by rw [if_neg (show ¬ (false = true) by decide)] at H; exact H
  clear H
  have H := H1
  clear H1
  simp only [Option.some.injEq, Prod.mk.injEq] at H
  obtain ⟨rfl, rfl, rfl, rfl⟩ := H
  go_enter Try.func7, Try.ntmps7
  go_wp2_with (first | ((with_reducible refine gate_dst (N := 2) rfl ?_); refine zbx 2 #[.int .i8 a0_0, .int .i8 a0_1, .slice A0_2 l0_2.length c0_2] 30 ?_; intro gb143 hg w48 hbox hb; have n_ : _ ∧ _ ∧ _ ∧ _ := ⟨zb HB hb, Aside0.mk (hbox), zg HB hg, zg HB hg⟩; clear HB; obtain ⟨HB, BK143, GW143, GE143⟩ := n_; clear hb hbox hg) | ((with_reducible refine gate_dst (N := 3) rfl ?_); refine zbx 3 #[.int .i8 a1_0, .int .i8 a1_1] 34 ?_; intro gb144 hg w49 hbox hb; have n_ : _ ∧ _ ∧ _ ∧ _ ∧ _ ∧ _ ∧ _ := ⟨zk BK143 hb, zbs hb, Aside0.mk (hbox), zg HB hg, zg HB hg, zn1 BK143 hg, zn2 BK143 hg⟩; clear BK143 HB; obtain ⟨BK143, HB, BK144, GW144, GE144, NB143_144, NB144_143⟩ := n_; clear hb hbox hg) | ((with_reducible refine gate_dst (N := 4) rfl ?_); refine zbx 4 #[.int .i8 0, .int .i8 0, .slice none 0 0] 30 ?_; intro gb145 hg w50 hbox hb; have n_ : _ ∧ _ ∧ _ ∧ _ ∧ _ ∧ _ ∧ _ ∧ _ ∧ _ ∧ _ := ⟨zk BK143 hb, zk BK144 hb, zbs hb, Aside0.mk (hbox), zg HB hg, zg HB hg, zn1 BK143 hg, zn2 BK143 hg, zn1 BK144 hg, zn2 BK144 hg⟩; clear BK143 BK144 HB; obtain ⟨BK143, BK144, HB, BK145, GW145, GE145, NB143_145, NB145_143, NB144_145, NB145_144⟩ := n_; clear hb hbox hg) | ((with_reducible refine gate_callee (f := 25) rfl ?_); refine goesL_ (some 8) rfl rfl Try.func25 (by kernel_rfl) rfl #[.pointer (some ⟨gb143, 0, none⟩)] rfl zm ?_; (with_reducible refine (spec_l01Ok.calls k _ [(⟨a0_0, a0_1, l0_2⟩ : S30)] false _ ?side1 A3.out).mono ?_); (case side1 => refine ro_of_blk (T := 30) (cs := #[.int .i8 a0_0, .int .i8 a0_1, .slice A0_2 l0_2.length c0_2]) (zh BK143).out ?_; exact k30_mk _ (⟨a0_0, a0_1, l0_2⟩ : S30) (by exact HC0_2.out) (by exact zcc HB HR0_2.out)); rintro e w51 ⟨rfl, hb⟩; refine ⟨_, rfl, ?_⟩; have n_ : _ ∧ _ ∧ _ ∧ _ := ⟨zk BK143 hb, zk BK144 hb, zk BK145 hb, zbs hb⟩; clear BK143 BK144 BK145 HB; obtain ⟨BK143, BK144, BK145, HB⟩ := n_; (try clear hb); (try clear hb2); (try clear hk); (try clear hi); have hnb52 := NB145_143.out; have hnc52 := NB143_145.out; have hnb53 := NB145_144.out; have hnc53 := NB144_145.out; obtain ⟨z54_0, z54_1, z54_2, y54_0, y54_1, y54_2⟩ := zB3 BK145))
  refine bodyPost_ret (results_ct rfl _ _ gb145 30 #[.int .i8 0, .int .i8 0, .slice none 0 0] (0, 0) _ rfl (zp BK145) Try.underlying30 rfl (by kernel_rfl)) rfl ?_
  exact ⟨_, zv, by first | exact Kd.R_nil _ _ _ _ _ | exact Kd.N_nil _ _ _ _ _ | exact Kd.V_nil _ _ _ _ _ | exact Kd.Q_nil _ _ _ _ _ | exact Kd.S_nil _ _ _ _ _, zbo⟩
 subst c4
 have H1 : ((spec_l01Find.f k [(⟨a0_0, a0_1, l0_2⟩ : S30)] a1_0 a1_1).bind fun t147 => (if t147 < 0 then (some (0, 0, ([] : List (S62)), 6)) else ((spec_l01Copy.f [(⟨a0_0, a0_1, l0_2⟩ : S30)]).bind fun bt148 => ((if t147 ≤ (bt148.2.2.length : Int) then some (bt148.2.2.take t147.toNat) else none).bind fun y154 => (if 0 ≤ (wrap64 (t147 + 1)) then (if (wrap64 (t147 + 1)) ≤ (l0_2.length : Int) then ((some (l0_2.drop ((wrap64 (t147 + 1)) : Int).toNat : List (S62))).bind fun y157 => (if y154.length + y157.length < 28147497671065 then (some (bt148.1, bt148.2.1, (y154 ++ y157), 0)) else (none))) else (none)) else (none)))))) = some (r1, r2, r3, r4) := by rw [if_pos rfl] at H; exact H
 clear H
 have H := H1
 clear H1
 replace H := zob H
 obtain ⟨t147, A50, H⟩ := H
 replace H : (if t147 < 0 then (some (0, 0, ([] : List (S62)), 6)) else ((spec_l01Copy.f [(⟨a0_0, a0_1, l0_2⟩ : S30)]).bind fun bt148 => ((if t147 ≤ (bt148.2.2.length : Int) then some (bt148.2.2.take t147.toNat) else none).bind fun y154 => (if 0 ≤ (wrap64 (t147 + 1)) then (if (wrap64 (t147 + 1)) ≤ (l0_2.length : Int) then ((some (l0_2.drop ((wrap64 (t147 + 1)) : Int).toNat : List (S62))).bind fun y157 => (if y154.length + y157.length < 28147497671065 then (some (bt148.1, bt148.2.1, (y154 ++ y157), 0)) else (none))) else (none)) else (none))))) = some (r1, r2, r3, r4) := H
 have A5 := Aside0.mk A50
 clear A50
 by_cases c6 : t147 < 0
 ·rw [if_pos c6] at H
  have c6b0 : decide (t147 < 0) = true := decide_eq_true c6
  clear c6
  simp only [Option.some.injEq, Prod.mk.injEq] at H
  obtain ⟨rfl, rfl, rfl, rfl⟩ := H
  go_enter Try.func7, Try.ntmps7
  go_wp2_with (first | ((with_reducible refine gate_dst (N := 2) rfl ?_); refine zbx 2 #[.int .i8 a0_0, .int .i8 a0_1, .slice A0_2 l0_2.length c0_2] 30 ?_; intro gb143 hg w7 hbox hb; have n_ : _ ∧ _ ∧ _ ∧ _ := ⟨zb HB hb, Aside0.mk (hbox), zg HB hg, zg HB hg⟩; clear HB; obtain ⟨HB, BK143, GW143, GE143⟩ := n_; clear hb hbox hg) | ((with_reducible refine gate_dst (N := 3) rfl ?_); refine zbx 3 #[.int .i8 a1_0, .int .i8 a1_1] 34 ?_; intro gb144 hg w8 hbox hb; have n_ : _ ∧ _ ∧ _ ∧ _ ∧ _ ∧ _ ∧ _ := ⟨zk BK143 hb, zbs hb, Aside0.mk (hbox), zg HB hg, zg HB hg, zn1 BK143 hg, zn2 BK143 hg⟩; clear BK143 HB; obtain ⟨BK143, HB, BK144, GW144, GE144, NB143_144, NB144_143⟩ := n_; clear hb hbox hg) | ((with_reducible refine gate_dst (N := 4) rfl ?_); refine zbx 4 #[.int .i8 0, .int .i8 0, .slice none 0 0] 30 ?_; intro gb145 hg w9 hbox hb; have n_ : _ ∧ _ ∧ _ ∧ _ ∧ _ ∧ _ ∧ _ ∧ _ ∧ _ ∧ _ := ⟨zk BK143 hb, zk BK144 hb, zbs hb, Aside0.mk (hbox), zg HB hg, zg HB hg, zn1 BK143 hg, zn2 BK143 hg, zn1 BK144 hg, zn2 BK144 hg⟩; clear BK143 BK144 HB; obtain ⟨BK143, BK144, HB, BK145, GW145, GE145, NB143_145, NB145_143, NB144_145, NB145_144⟩ := n_; clear hb hbox hg) | ((with_reducible refine gate_callee (f := 25) rfl ?_); refine goesL_ (some 8) rfl rfl Try.func25 (by kernel_rfl) rfl #[.pointer (some ⟨gb143, 0, none⟩)] rfl zm ?_; (with_reducible refine (spec_l01Ok.calls k _ [(⟨a0_0, a0_1, l0_2⟩ : S30)] true _ ?side1 A3.out).mono ?_); (case side1 => refine ro_of_blk (T := 30) (cs := #[.int .i8 a0_0, .int .i8 a0_1, .slice A0_2 l0_2.length c0_2]) (zh BK143).out ?_; exact k30_mk _ (⟨a0_0, a0_1, l0_2⟩ : S30) (by exact HC0_2.out) (by exact zcc HB HR0_2.out)); rintro e w10 ⟨rfl, hb⟩; refine ⟨_, rfl, ?_⟩; have n_ : _ ∧ _ ∧ _ ∧ _ := ⟨zk BK143 hb, zk BK144 hb, zk BK145 hb, zbs hb⟩; clear BK143 BK144 BK145 HB; obtain ⟨BK143, BK144, BK145, HB⟩ := n_; (try clear hb); (try clear hb2); (try clear hk); (try clear hi); have hnb11 := NB144_143.out; have hnc11 := NB143_144.out; have hnb12 := NB144_145.out; have hnc12 := NB145_144.out; obtain ⟨z13_0, z13_1, y13_0, y13_1⟩ := zB2 BK144) | ((with_reducible refine gate_callee (f := 26) rfl ?_); refine goesL_ (some 12) rfl rfl Try.func26 (by kernel_rfl) rfl #[.pointer (some ⟨gb143, 0, none⟩), .agg #[.int .i8 a1_0, .int .i8 a1_1]] rfl zm ?_; (with_reducible refine (spec_l01Find.calls k _ [(⟨a0_0, a0_1, l0_2⟩ : S30)] a1_0 a1_1 t147 _ ?side1 A5.out).mono ?_); (case side1 => refine ro_of_blk (T := 30) (cs := #[.int .i8 a0_0, .int .i8 a0_1, .slice A0_2 l0_2.length c0_2]) (zh BK143).out ?_; exact k30_mk _ (⟨a0_0, a0_1, l0_2⟩ : S30) (by exact HC0_2.out) (by exact zcc HB HR0_2.out)); rintro e w14 ⟨rfl, hb⟩; refine ⟨_, rfl, ?_⟩; have n_ : _ ∧ _ ∧ _ ∧ _ := ⟨zk BK143 hb, zk BK144 hb, zk BK145 hb, zbs hb⟩; clear BK143 BK144 BK145 HB; obtain ⟨BK143, BK144, BK145, HB⟩ := n_; (try clear hb); (try clear hb2); (try clear hk); (try clear hi); have hnb15 := NB145_143.out; have hnc15 := NB143_145.out; obtain ⟨z16_0, z16_1, z16_2, y16_0, y16_1, y16_2⟩ := zB3 BK145))
  refine bodyPost_ret (results_ct rfl _ _ gb145 30 #[.int .i8 0, .int .i8 0, .slice none 0 0] (0, 0) _ rfl (zp BK145) Try.underlying30 rfl (by kernel_rfl)) rfl ?_
  exact ⟨_, zv, by first | exact Kd.R_nil _ _ _ _ _ | exact Kd.N_nil _ _ _ _ _ | exact Kd.V_nil _ _ _ _ _ | exact Kd.Q_nil _ _ _ _ _ | exact Kd.S_nil _ _ _ _ _, zbo⟩
 rw [if_neg c6] at H
 have c6b0 : decide (t147 < 0) = false := decide_eq_false c6
 clear c6
 replace H := zob H
 obtain ⟨⟨t148, t149, t150⟩, A170, H⟩ := H
 replace H : ((if t147 ≤ (t150.length : Int) then some (t150.take t147.toNat) else none).bind fun y154 => (if 0 ≤ (wrap64 (t147 + 1)) then (if (wrap64 (t147 + 1)) ≤ (l0_2.length : Int) then ((some (l0_2.drop ((wrap64 (t147 + 1)) : Int).toNat : List (S62))).bind fun y157 => (if y154.length + y157.length < 28147497671065 then (some (t148, t149, (y154 ++ y157), 0)) else (none))) else (none)) else (none))) = some (r1, r2, r3, r4) := H
 have A17 := Aside0.mk A170
 clear A170
 by_cases cQ : t147 ≤ (t150.length : Int)
 rotate_left
 ·rw [if_neg cQ] at H; exact absurd H (by simp)
 rw [if_pos cQ] at H
 have CQ := Aside0.mk cQ
 clear cQ
 obtain ⟨y154, hy154⟩ : ∃ y_ : List (S62), y_ = (t150.take t147.toNat) := ⟨_, rfl⟩
 replace H : (if 0 ≤ (wrap64 (t147 + 1)) then (if (wrap64 (t147 + 1)) ≤ (l0_2.length : Int) then ((some (l0_2.drop ((wrap64 (t147 + 1)) : Int).toNat : List (S62))).bind fun y157 => (if y154.length + y157.length < 28147497671065 then (some (t148, t149, (y154 ++ y157), 0)) else (none))) else (none)) else (none)) = some (r1, r2, r3, r4) := by first | (rw [hy154]; with_reducible exact H) | (have H2_ := (Option.bind_some _ _).symm.trans H; rw [hy154]; with_reducible exact H2_) | (have H2_ := (Option.bind_some _ _).symm.trans H; with_reducible exact H2_) | with_reducible exact H | (rw [hy154]; exact H) | exact H
 have Ny154 := Aside0.mk hy154
 clear hy154
 obtain ⟨ji18, hji18⟩ : ∃ j_ : Int, (wrap64 (t147 + 1)) = j_ := ⟨_, rfl⟩
 replace H : (if 0 ≤ (ji18) then (if (ji18) ≤ (l0_2.length : Int) then ((some (l0_2.drop ((ji18) : Int).toNat : List (S62))).bind fun y157 => (if y154.length + y157.length < 28147497671065 then (some (t148, t149, (y154 ++ y157), 0)) else (none))) else (none)) else (none)) = some (r1, r2, r3, r4) := by first | (rw [hji18] at H; exact H) | (simp only [hji18] at H ⊢; exact H)
 (try rw [hji18] at A3)
 (try rw [hji18] at A5)
 (try rw [hji18] at A17)
 have hji18w : (IntKind.i64.wrap (t147 + 1)) = ji18 := (i64_w _).trans hji18
 by_cases c19 : 0 ≤ (ji18)
 rotate_left
 ·rw [if_neg c19] at H
  exact absurd H (by simp)
 rw [if_pos c19] at H
 have c19b0 := eq_true c19
 have c19b1 : decide (0 ≤ (ji18)) = true := decide_eq_true c19
 clear c19
 by_cases c20 : (ji18) ≤ (l0_2.length : Int)
 rotate_left
 ·rw [if_neg c20] at H
  exact absurd H (by simp)
 rw [if_pos c20] at H
 have c20b0 := eq_true c20
 have c20b1 : decide ((ji18) ≤ (l0_2.length : Int)) = true := decide_eq_true c20
 clear c20
 obtain ⟨y157, hy157⟩ : ∃ y_ : List (S62), y_ = (l0_2.drop ((ji18) : Int).toNat) := ⟨_, rfl⟩
 replace H : (if y154.length + y157.length < 28147497671065 then (some (t148, t149, (y154 ++ y157), 0)) else (none)) = some (r1, r2, r3, r4) := by first | (rw [hy157]; with_reducible exact H) | (have H2_ := (Option.bind_some _ _).symm.trans H; rw [hy157]; with_reducible exact H2_) | (have H2_ := (Option.bind_some _ _).symm.trans H; with_reducible exact H2_) | with_reducible exact H | (rw [hy157]; exact H) | exact H
 have Ny157 := Aside0.mk hy157
 clear hy157
 by_cases c21 : y154.length + y157.length < 28147497671065
 rotate_left
 ·rw [if_neg c21] at H
  exact absurd H (by simp)
 rw [if_pos c21] at H
 have LMc21 := Aside0.mk c21
 clear c21
 obtain ⟨y161, hy161⟩ : ∃ y_ : List (S62), y_ = (y154 ++ y157) := ⟨_, rfl⟩
 replace H : (some (t148, t149, y161, 0)) = some (r1, r2, r3, r4) := by first | (rw [hy161]; with_reducible exact H) | (have H2_ := (Option.bind_some _ _).symm.trans H; rw [hy161]; with_reducible exact H2_) | (have H2_ := (Option.bind_some _ _).symm.trans H; with_reducible exact H2_) | with_reducible exact H | (rw [hy161]; exact H) | exact H
 have Ny161 := Aside0.mk hy161
 clear hy161
 simp only [Option.some.injEq, Prod.mk.injEq] at H
 obtain ⟨rfl, rfl, rfl, rfl⟩ := H
 go_enter Try.func7, Try.ntmps7
 try go_wp2_with (first | ((with_reducible refine gate_dst (N := 2) rfl ?_); refine zbx 2 #[.int .i8 a0_0, .int .i8 a0_1, .slice A0_2 l0_2.length c0_2] 30 ?_; intro gb143 hg w22 hbox hb; have n_ : _ ∧ _ ∧ _ ∧ _ := ⟨zb HB hb, Aside0.mk (hbox), zg HB hg, zg HB hg⟩; clear HB; obtain ⟨HB, BK143, GW143, GE143⟩ := n_; clear hb hbox hg) | ((with_reducible refine gate_dst (N := 3) rfl ?_); refine zbx 3 #[.int .i8 a1_0, .int .i8 a1_1] 34 ?_; intro gb144 hg w23 hbox hb; have n_ : _ ∧ _ ∧ _ ∧ _ ∧ _ ∧ _ ∧ _ := ⟨zk BK143 hb, zbs hb, Aside0.mk (hbox), zg HB hg, zg HB hg, zn1 BK143 hg, zn2 BK143 hg⟩; clear BK143 HB; obtain ⟨BK143, HB, BK144, GW144, GE144, NB143_144, NB144_143⟩ := n_; clear hb hbox hg) | ((with_reducible refine gate_dst (N := 4) rfl ?_); refine zbx 4 #[.int .i8 0, .int .i8 0, .slice none 0 0] 30 ?_; intro gb145 hg w24 hbox hb; have n_ : _ ∧ _ ∧ _ ∧ _ ∧ _ ∧ _ ∧ _ ∧ _ ∧ _ ∧ _ := ⟨zk BK143 hb, zk BK144 hb, zbs hb, Aside0.mk (hbox), zg HB hg, zg HB hg, zn1 BK143 hg, zn2 BK143 hg, zn1 BK144 hg, zn2 BK144 hg⟩; clear BK143 BK144 HB; obtain ⟨BK143, BK144, HB, BK145, GW145, GE145, NB143_145, NB145_143, NB144_145, NB145_144⟩ := n_; clear hb hbox hg) | ((with_reducible refine gate_callee (f := 25) rfl ?_); refine goesL_ (some 8) rfl rfl Try.func25 (by kernel_rfl) rfl #[.pointer (some ⟨gb143, 0, none⟩)] rfl zm ?_; (with_reducible refine (spec_l01Ok.calls k _ [(⟨a0_0, a0_1, l0_2⟩ : S30)] true _ ?side1 A3.out).mono ?_); (case side1 => refine ro_of_blk (T := 30) (cs := #[.int .i8 a0_0, .int .i8 a0_1, .slice A0_2 l0_2.length c0_2]) (zh BK143).out ?_; exact k30_mk _ (⟨a0_0, a0_1, l0_2⟩ : S30) (by exact HC0_2.out) (by exact zcc HB HR0_2.out)); rintro e w25 ⟨rfl, hb⟩; refine ⟨_, rfl, ?_⟩; have n_ : _ ∧ _ ∧ _ ∧ _ := ⟨zk BK143 hb, zk BK144 hb, zk BK145 hb, zbs hb⟩; clear BK143 BK144 BK145 HB; obtain ⟨BK143, BK144, BK145, HB⟩ := n_; (try clear hb); (try clear hb2); (try clear hk); (try clear hi); have hnb26 := NB144_143.out; have hnc26 := NB143_144.out; have hnb27 := NB144_145.out; have hnc27 := NB145_144.out; obtain ⟨z28_0, z28_1, y28_0, y28_1⟩ := zB2 BK144) | ((with_reducible refine gate_callee (f := 26) rfl ?_); refine goesL_ (some 12) rfl rfl Try.func26 (by kernel_rfl) rfl #[.pointer (some ⟨gb143, 0, none⟩), .agg #[.int .i8 a1_0, .int .i8 a1_1]] rfl zm ?_; (with_reducible refine (spec_l01Find.calls k _ [(⟨a0_0, a0_1, l0_2⟩ : S30)] a1_0 a1_1 t147 _ ?side1 A5.out).mono ?_); (case side1 => refine ro_of_blk (T := 30) (cs := #[.int .i8 a0_0, .int .i8 a0_1, .slice A0_2 l0_2.length c0_2]) (zh BK143).out ?_; exact k30_mk _ (⟨a0_0, a0_1, l0_2⟩ : S30) (by exact HC0_2.out) (by exact zcc HB HR0_2.out)); rintro e w29 ⟨rfl, hb⟩; refine ⟨_, rfl, ?_⟩; have n_ : _ ∧ _ ∧ _ ∧ _ := ⟨zk BK143 hb, zk BK144 hb, zk BK145 hb, zbs hb⟩; clear BK143 BK144 BK145 HB; obtain ⟨BK143, BK144, BK145, HB⟩ := n_; (try clear hb); (try clear hb2); (try clear hk); (try clear hi)) | ((with_reducible refine gate_callee (f := 27) rfl ?_); refine goesL_ (some 16) rfl rfl Try.func27 (by kernel_rfl) rfl #[.pointer (some ⟨gb143, 0, none⟩)] rfl zm ?_; (with_reducible refine (spec_l01Copy.calls _ [(⟨a0_0, a0_1, l0_2⟩ : S30)] t148 t149 t150 _ ?side1 A17.out).mono ?_); (case side1 => refine ro_of_blk (T := 30) (cs := #[.int .i8 a0_0, .int .i8 a0_1, .slice A0_2 l0_2.length c0_2]) (zh BK143).out ?_; exact k30_mk _ (⟨a0_0, a0_1, l0_2⟩ : S30) (by exact HC0_2.out) (by exact zcc HB HR0_2.out)); rintro e w30 ⟨v151, rfl, ho0, hb⟩; refine ⟨_, rfl, ?_⟩; have n_ : _ ∧ _ ∧ _ ∧ _ ∧ _ := ⟨Aside0.mk (Kd.R_lower ho0 (zz HB)), zk BK143 hb, zk BK144 hb, zk BK145 hb, zbs hb⟩; clear BK143 BK144 BK145 HB; obtain ⟨HO152, BK143, BK144, BK145, HB⟩ := n_; (try clear hb); (try clear hb2); (try clear hk); (try clear hi); (try clear ho0)) | ((with_reducible refine gate_dst (N := 7) rfl ?_); refine zbx 7 #[.int .i8 0, .int .i8 0, .slice none 0 0] 30 ?_; intro gb153 hg w31 hbox hb; have n_ : _ ∧ _ ∧ _ ∧ _ ∧ _ ∧ _ ∧ _ ∧ _ ∧ _ ∧ _ ∧ _ ∧ _ ∧ _ ∧ _ := ⟨zr HO152 hb, zk BK143 hb, zk BK144 hb, zk BK145 hb, zbs hb, Aside0.mk (hbox), zg HB hg, zg HB hg, zn1 BK143 hg, zn2 BK143 hg, zn1 BK144 hg, zn2 BK144 hg, zn1 BK145 hg, zn2 BK145 hg⟩; clear HO152 BK143 BK144 BK145 HB; obtain ⟨HO152, BK143, BK144, BK145, HB, BK153, GW153, GE153, NB143_153, NB153_143, NB144_153, NB153_144, NB145_153, NB153_145⟩ := n_; clear hb hbox hg; have hnb32 := NB153_143.out; have hnc32 := NB143_153.out; have hnb33 := NB153_144.out; have hnc33 := NB144_153.out; have hnb34 := NB153_145.out; have hnc34 := NB145_153.out; obtain ⟨z35_0, z35_1, z35_2, y35_0, y35_1, y35_2⟩ := zB3 BK153; obtain ⟨Ao36, co36, eo36⟩ := Kd.R_slice HO152.out; subst eo36))
 have n0_ : Aside0 (Kd.R k62 62 (((w31.setCell ⟨gb153, 0, none⟩ (.int .i8 t148)).setCell ⟨gb153, 1, none⟩ (.int .i8 t149)).setCell ⟨gb153, 2, none⟩ (.slice Ao36 t150.length co36)) w.heap.size (fun _ => True) (.slice Ao36 t150.length co36) t150) := ⟨Kd.R_mono (zs HO152 BK153).out (fun _ hk => trivial)⟩
 have n1_ : Aside0 ((((w31.setCell ⟨gb153, 0, none⟩ (.int .i8 t148)).setCell ⟨gb153, 1, none⟩ (.int .i8 t149)).setCell ⟨gb153, 2, none⟩ (.slice Ao36 t150.length co36)).heap[gb143]? = some (.cells #[.int .i8 a0_0, .int .i8 a0_1, .slice A0_2 l0_2.length c0_2] 30 (0, 0))) := zf BK143 NB143_153
 have n2_ : Aside0 ((((w31.setCell ⟨gb153, 0, none⟩ (.int .i8 t148)).setCell ⟨gb153, 1, none⟩ (.int .i8 t149)).setCell ⟨gb153, 2, none⟩ (.slice Ao36 t150.length co36)).heap[gb144]? = some (.cells #[.int .i8 a1_0, .int .i8 a1_1] 34 (0, 0))) := zf BK144 NB144_153
 have n3_ : Aside0 ((((w31.setCell ⟨gb153, 0, none⟩ (.int .i8 t148)).setCell ⟨gb153, 1, none⟩ (.int .i8 t149)).setCell ⟨gb153, 2, none⟩ (.slice Ao36 t150.length co36)).heap[gb145]? = some (.cells #[.int .i8 0, .int .i8 0, .slice none 0 0] 30 (0, 0))) := zf BK145 NB145_153
 have n4_ : Aside0 ((((w31.setCell ⟨gb153, 0, none⟩ (.int .i8 t148)).setCell ⟨gb153, 1, none⟩ (.int .i8 t149)).setCell ⟨gb153, 2, none⟩ (.slice Ao36 t150.length co36)).heap[gb153]? = some (.cells #[.int .i8 t148, .int .i8 t149, .slice Ao36 t150.length co36] 30 (0, 0))) := ⟨zp BK153⟩
 have n5_ : Aside0 (Below w.heap.size w (((w31.setCell ⟨gb153, 0, none⟩ (.int .i8 t148)).setCell ⟨gb153, 1, none⟩ (.int .i8 t149)).setCell ⟨gb153, 2, none⟩ (.slice Ao36 t150.length co36))) := zba
 (try clear HO152)
 (try clear BK143)
 (try clear BK144)
 (try clear BK145)
 (try clear BK153)
 (try clear HB)
 generalize (((w31.setCell ⟨gb153, 0, none⟩ (.int .i8 t148)).setCell ⟨gb153, 1, none⟩ (.int .i8 t149)).setCell ⟨gb153, 2, none⟩ (.slice Ao36 t150.length co36)) = w37 at n0_ n1_ n2_ n3_ n4_ n5_ ⊢
 have HO152 := n0_
 have BK143 := n1_
 have BK144 := n2_
 have BK145 := n3_
 have BK153 := n4_
 have HB := n5_
 clear n0_ n1_ n2_ n3_ n4_ n5_
 have n_ : _ ∧ _ ∧ _ ∧ _ ∧ _ ∧ _ := ⟨Aside0.mk (Kd.R_drew HO152.out), Aside0.mk (blk_drew BK143.out), Aside0.mk (blk_drew BK144.out), Aside0.mk (blk_drew BK145.out), Aside0.mk (blk_drew BK153.out), Aside0.mk (below_drew1 HB.out)⟩
 clear HO152 BK143 BK144 BK145 BK153 HB
 obtain ⟨HO152, BK143, BK144, BK145, BK153, HB⟩ := n_
 have q39 : ((ji18) : Int) ≤ ((l0_2.length : Int) : Int) := of_decide_eq_true zA
 obtain ⟨i039, hi039, _, hsz39, _⟩ := info_parts info62
 have hroom39 : l0_2.length ≤ c0_2 := HC0_2.out
 have hC39 : Kd.C k62 _ A0_2 l0_2.length l0_2 := HR0_2.out
 have q039 : (0 : Int) ≤ ((ji18) : Int) := of_decide_eq_true zA
 have hcutQ := cut_to (P := Try.prog) 28 62 .i64 Try.underlying28 hi039 Ao36 t150.length co36 t147 (by have := of_decide_eq_false c6b0; omega) CQ.out (Kd.R_reads' HO152.out).2.1
 have hcut39 := cut_from (P := Try.prog) 28 62 .i64 Try.underlying28 hi039 5 hsz39 A0_2 l0_2.length c0_2 (ji18) q039 q39
 have hr39 := Kd.C_drop (m := ((ji18) : Int).toNat) (c := c0_2) hC39 (by omega) hroom39
 obtain ⟨A39, hA39⟩ : ∃ A1, A1 = (if c0_2 = ((ji18) : Int).toNat then A0_2 else (A0_2 : Option Addr).map (·.add (((ji18) : Int).toNat * 5))) := ⟨_, rfl⟩
 obtain ⟨c39, hc39⟩ : ∃ c1, c1 = c0_2 - ((ji18) : Int).toNat := ⟨_, rfl⟩
 have hy39 : y157.length = l0_2.length - ((ji18) : Int).toNat := (by rw [Ny157.out, List.length_drop] <;> omega)
 rw [show (l0_2).drop ((ji18) : Int).toNat = y157 from Ny157.out.symm] at hr39
 replace hr39 : Kd.C k62 _ A39 y157.length y157 := (by rw [hA39]; exact hr39)
 rw [← hy39, ← hA39, ← hc39] at hcut39
 have HR160 := Aside0.mk hr39
 have HC160 := Aside0.mk (show y157.length ≤ c39 from by rw [hy39, hc39]; exact Nat.sub_le_sub_right hroom39 _)
 clear hr39 hC39 hroom39 hi039 hsz39 hc39
 have KY39 := Aside0.mk hy39
 have KA39 := Aside0.mk hA39
 clear hy39 hA39
 replace q39 := eq_true q39
 refine start_ (n := 12) (S := fun w' => w'.cell? ⟨gb153, 0, none⟩ = some (.int .i8 t148) ∧ w'.cell? ⟨gb153, 1, none⟩ = some (.int .i8 t149) ∧ w'.cell? ⟨gb153, 2, none⟩ = some (.slice Ao36 t150.length co36) ∧ w'.cell? ⟨gb143, 0, none⟩ = some (.int .i8 a0_0) ∧ w'.cell? ⟨gb143, 1, none⟩ = some (.int .i8 a0_1) ∧ w'.cell? ⟨gb143, 2, none⟩ = some (.slice A0_2 l0_2.length c0_2)) (ds := [11]) (zq 12 0) (by kernel_rfl) rfl rfl ⟨(blk_cell BK153.out 0).trans rfl, (blk_cell BK153.out 1).trans rfl, (blk_cell BK153.out 2).trans rfl, (blk_cell BK143.out 0).trans rfl, (blk_cell BK143.out 1).trans rfl, (blk_cell BK143.out 2).trans rfl⟩ (fun hHeld => ?_); refine with_tabW spec_TakePiece.tab7 spec_TakePiece.bits7 (fun HT_ HW_ => ?_)
 generalize w37.drew = w38 at HO152 BK143 BK144 BK145 BK153 HB HR160 hHeld ⊢
 refine zpu 0 (some 17) (zq 12 1) HT_ ?_
 refine zpu 2 (some 19) (zq 12 5) HT_ ?_
 refine zpu 4 (some 21) (zq 12 21) HT_ ?_
 refine zpu 6 (some 23) (zq 12 85) HT_ ?_
 refine zpu 7 (some 24) (zq 12 213) HT_ ?_
 refine ztk 1 (some 18) (zq 12 215) HT_ HW_ rfl hHeld (Or.inl ⟨by rfl, by (rintro w' ⟨s0, s1, s2, s3, s4, s5⟩; go_simp; with_reducible rfl)⟩) ?_
 refine ztk 5 (some 22) (zq 12 247) HT_ HW_ rfl hHeld (Or.inl ⟨by rfl, by (rintro w' ⟨s0, s1, s2, s3, s4, s5⟩; go_simp; with_reducible rfl)⟩) ?_
 refine zpu 8 (some 25) (zq 12 503) HT_ ?_
 refine zpu 3 (some 20) (zq 12 511) HT_ ?_
 have HO156 : Aside0 (Kd.R k62 62 w38 w.heap.size (fun _ => True) (.slice Ao36 t147.toNat co36) y154) := ⟨by rw [Ny154.out]; exact Kd.R_take HO152.out (by have := CQ.out; have := of_decide_eq_false c6b0; omega)⟩
 refine one_ (i := 9) (N := some 26) (zq 12 1023) rfl rfl (one_of HT_.out (by kernel_rfl)) (by decide) (fun K hK => ?_)
 refine Kd.R_append_rows_step k62 (w0 := w) w.heap.size (by rfl) (.tmp 20) (.tmp 25) 28 62 (.agg #[(.int .i8 0), (.int .i8 0), (.int .i8 0), (.int .i8 0), (.int .i8 0)]) 5 rfl Try.underlying28 info62 rfl (by decide) (by omega) (.slice Ao36 t147.toNat co36) y154 y157 _ _ _ (fun _ => True) (fun _ => False) rfl rfl ?aO ?aR (fun _ _ h => h) (fun _ h => h.elim) ?aF ?aB ?aS ?aL ?_
 (case aR => exact zcc HB HR160.out)
 (case aB => exact zbo)
 (case aF => exact (fun _ _ => trivial))
 (case aO => exact HO156.out)
 (case aS => exact (zz HB))
 (case aL => have := LMc21.out; omega)
 intro v162 w42 ho hb hg hat
 rw [← Ny161.out] at ho
 have n0_ := Aside0.mk (blk_grown (g := gb143) (o := .cells #[.int .i8 a0_0, .int .i8 a0_1, .slice A0_2 l0_2.length c0_2] 30 (0, 0)) (zh BK143).out hg (Kd.R_ne HO156.out BK143.out (by decide)))
 have n1_ := Aside0.mk (blk_grown (g := gb144) (o := .cells #[.int .i8 a1_0, .int .i8 a1_1] 34 (0, 0)) (zh BK144).out hg (Kd.R_ne HO156.out BK144.out (by decide)))
 have n2_ := Aside0.mk (blk_grown (g := gb145) (o := .cells #[.int .i8 0, .int .i8 0, .slice none 0 0] 30 (0, 0)) (zh BK145).out hg (Kd.R_ne HO156.out BK145.out (by decide)))
 have n4_ := Aside0.mk (blk_grown (g := gb153) (o := .cells #[.int .i8 t148, .int .i8 t149, .slice Ao36 t150.length co36] 30 (0, 0)) (zh BK153).out hg (Kd.R_ne HO156.out BK153.out (by decide)))
 have n5_ := Aside0.mk (hb)
 have n6_ := Aside0.mk (ho)
 clear BK143
 clear BK144
 clear BK145
 clear HO152
 clear BK153
 clear HB
 clear HO156
 have BK143 := n0_
 have BK144 := n1_
 have BK145 := n2_
 have BK153 := n4_
 have HB := n5_
 have HO163 := n6_
 clear n0_ n1_ n2_ n4_ n5_ n6_
 clear ho hb hg hat
 obtain ⟨Ao43, co43, eo43⟩ := Kd.R_slice HO163.out
 (first | subst eo43 | (injection eo43 with f1_ f2_ f3_; have f4_ := f1_.symm; have f5_ := f3_.symm; clear f1_ f2_ f3_; subst f4_; subst f5_))
 refine hK.out _ _ ⟨(blk_cell BK153.out 0).trans rfl, (blk_cell BK153.out 1).trans rfl, (blk_cell BK153.out 2).trans rfl, (blk_cell BK143.out 0).trans rfl, (blk_cell BK143.out 1).trans rfl, (blk_cell BK143.out 2).trans rfl⟩ (fun hHeld => ?_)
 clear hK K
 refine norm_ (a' := ?_) ?_ ?_
 rotate_left
 ·show Act.put _ (some 26) _ = _
  exact zap
 refine zpu 10 (some 27) (zq 12 2047) HT_ ?_
 refine last_ (i := 11) (N := none) (zq 12 4095) rfl rfl (one_of HT_.out (by kernel_rfl)) (by decide) (fun K hK => ?_)
 have hs44 : w42.cell? ⟨gb153, 2, none⟩ = some (.slice Ao36 t150.length co36) := (blk_cell BK153.out 2).trans rfl
 have hfs44 := blk_frozen BK153.out 2
 have hns44_0 := NB143_153.out
 have hns44_1 := NB144_153.out
 have hns44_2 := NB145_153.out
 have hms44_0 := NB153_143.out
 have hms44_1 := NB153_144.out
 have hms44_2 := NB153_145.out
 refine skip_ (w1 := ?_) (by rfl) rfl ?_ ?_
 rotate_left
 ·go_simp
  rfl
 refine hK.out _ _ ?_
 clear hK K
 refine done_ (done_of HT_.out (by kernel_rfl)) ?_
 obtain ⟨z45_0, z45_1, z45_2, y45_0, y45_1, y45_2⟩ := zB3 BK153
 have hnb46 := NB145_143.out
 have hnc46 := NB143_145.out
 obtain ⟨z47_0, z47_1, z47_2, y47_0, y47_1, y47_2⟩ := zB3 BK145
 try go_wp2
 refine bodyPost_ret (results_ct rfl _ _ gb145 30 #[.int .i8 t148, .int .i8 t149, .slice Ao43 y161.length co43] (0, 0) _ rfl (by (with_reducible repeat (first | refine blk_drewN ?_ _ | refine blk_drew ?_ | refine blk_alloc ?_ _)); refine blk_put (cs := #[.int .i8 t148, .int .i8 t149, .slice none 0 0]) ?_ 2 _ rfl; (with_reducible repeat (first | refine blk_drewN ?_ _ | refine blk_drew ?_ | refine blk_alloc ?_ _)); refine blk_put (cs := #[.int .i8 t148, .int .i8 0, .slice none 0 0]) ?_ 1 _ rfl; (with_reducible repeat (first | refine blk_drewN ?_ _ | refine blk_drew ?_ | refine blk_alloc ?_ _)); refine blk_put (cs := #[.int .i8 0, .int .i8 0, .slice none 0 0]) ?_ 0 _ rfl; (with_reducible repeat (first | refine blk_drewN ?_ _ | refine blk_drew ?_ | refine blk_alloc ?_ _)); refine blk_far ?_ NB145_153.out _; (with_reducible repeat (first | refine blk_drewN ?_ _ | refine blk_drew ?_ | refine blk_alloc ?_ _)); exact BK145.out) Try.underlying30 rfl (by kernel_rfl)) rfl ?_
 exact ⟨_, by first | rfl | (simp [errW_none, errW_some] <;> rfl) | (simp only [← hji18]; first | rfl | (simp [errW_none, errW_some] <;> rfl)) | (simp [*, errW_none, errW_some] <;> rfl), by (with_reducible repeat (first | apply Kd.R_alloc | apply Kd.R_drewN | apply Kd.R_drew)); exact Kd.R_mono (Kd.R_far (p := ⟨gb145, 2, none⟩) (Kd.R_far (p := ⟨gb145, 1, none⟩) (Kd.R_far (p := ⟨gb145, 0, none⟩) (Kd.R_far (p := ⟨gb153, 2, none⟩) (Kd.R_types (Kd.R_types HO163.out BK153.out (by decide)) BK145.out (by decide)) (fun _ hk => hk.1.2) (.slice Ao43 y161.length co43)) (fun _ hk => hk.2) (.int .i8 t148)) (fun _ hk => hk.2) (.int .i8 t149)) (fun _ hk => hk.2) (.slice Ao43 y161.length co43)) (fun _ hk => trivial), zbo⟩
def laws_toCell.l0 : Nat → Int → Int → Int → Int → Int → Option (Int × Int)
  | 0, _, _, _, _, _ => none
  | k + 1, x4, x144000, x144001, x146000, x146001 => if x4 < 2 then (if x4 = 0 then (laws_toCell.l0 k (wrap64 (x4 + 1)) x144000 x144001 x144000 x146001) else (if x4 = 1 then (laws_toCell.l0 k (wrap64 (x4 + 1)) x144000 x144001 x146000 x144001) else (none))) else (some (x146000, x146001))
def laws_toCell.f (k : Nat) (a0_0 : Int) (a0_1 : Int) : Option (Int × Int) := laws_toCell.l0 k 0 a0_0 a0_1 0 0
theorem laws_toCell.mono_l : ∀ k, (∀ y0 y1 y2 y3 y4, LeO (laws_toCell.l0 k y0 y1 y2 y3 y4) (laws_toCell.l0 (k + 1) y0 y1 y2 y3 y4))
  | 0 => fun _ _ _ _ _ r h => by simp [laws_toCell.l0] at h
  | k + 1 => by
    have ih0 := laws_toCell.mono_l k
    · intro y0 y1 y2 y3 y4
      unfold laws_toCell.l0
      repeat' first | (with_reducible first | apply ih0 | exact LeO.refl _ | exact LeO.none _ | refine LeO.ite ?_ ?_ | refine LeO.bind ?_ (fun _ => ?_)) | apply ih0 | exact LeO.none _ | refine LeO.ite ?_ ?_ | refine LeO.bind ?_ (fun _ => ?_)
theorem laws_toCell.mono : ∀ a0 a1 k, LeO (laws_toCell.f k a0 a1) (laws_toCell.f (k + 1) a0 a1) := by
 intro a0 a1 k
 have ih0 := laws_toCell.mono_l k
 unfold laws_toCell.f
 repeat' first | (with_reducible first | apply ih0 | exact LeO.refl _ | exact LeO.none _ | refine LeO.ite ?_ ?_ | refine LeO.bind ?_ (fun _ => ?_)) | apply ih0 | exact LeO.none _ | refine LeO.ite ?_ ?_ | refine LeO.bind ?_ (fun _ => ?_)
theorem laws_toCell.calls (k : Nat) (a0_0 : Int) (a0_1 : Int) (r1 : Int) (r2 : Int) (w : World) (h : laws_toCell.f k a0_0 a0_1 = some (r1, r2)) :
    Calls Try.prog 9 #[.agg #[.int .i8 a0_0, .int .i8 a0_1]] w fun e w' => e = .returned (.agg #[.int .i8 r1, .int .i8 r2]) ∧ Below w.heap.size w w' := by
 have hu26 := Try.underlying26
 have hu34 := Try.underlying34
 have HB := Aside0.mk (Below.refl w.heap.size w)
 have H : (laws_toCell.l0 k 0 a0_0 a0_1 0 0) = some (r1, r2) := h
 clear h
 have H' := Aside0.mk H
 clear H
 go_enter Try.func9, Try.ntmps9
 go_wp2_with (first | ((with_reducible refine gate_dst (N := 1) rfl ?_); refine zbx 1 #[.int .i8 a0_0, .int .i8 a0_1] 26 ?_; intro gb143 hg w2 hbox hb; have n_ : _ ∧ _ ∧ _ ∧ _ := ⟨zb HB hb, Aside0.mk (hbox), zg HB hg, zg HB hg⟩; clear HB; obtain ⟨HB, BK143, GW143, GE143⟩ := n_; clear hb hbox hg) | ((with_reducible refine gate_dst (N := 2) rfl ?_); refine zbx 2 #[.int .i8 0, .int .i8 0] 34 ?_; intro gb144 hg w3 hbox hb; have n_ : _ ∧ _ ∧ _ ∧ _ ∧ _ ∧ _ ∧ _ := ⟨zk BK143 hb, zbs hb, Aside0.mk (hbox), zg HB hg, zg HB hg, zn1 BK143 hg, zn2 BK143 hg⟩; clear BK143 HB; obtain ⟨BK143, HB, BK144, GW144, GE144, NB143_144, NB144_143⟩ := n_; clear hb hbox hg) | ((with_reducible refine gate_dst (N := 3) rfl ?_); refine zbx 3 #[.int .i8 0, .int .i8 0] 34 ?_; intro gb145 hg w4 hbox hb; have n_ : _ ∧ _ ∧ _ ∧ _ ∧ _ ∧ _ ∧ _ ∧ _ ∧ _ ∧ _ := ⟨zk BK143 hb, zk BK144 hb, zbs hb, Aside0.mk (hbox), zg HB hg, zg HB hg, zn1 BK143 hg, zn2 BK143 hg, zn1 BK144 hg, zn2 BK144 hg⟩; clear BK143 BK144 HB; obtain ⟨BK143, BK144, HB, BK145, GW145, GE145, NB143_145, NB145_143, NB144_145, NB145_144⟩ := n_; clear hb hbox hg))
 go_loopg [4] k (fun kq v4 w' => ∃ (x4_1 : Int) (x146000_1 : Int) (x146001_1 : Int), v4 = .int .i64 x4_1 ∧ Aside0 (laws_toCell.l0 kq x4_1 a0_0 a0_1 x146000_1 x146001_1 = some (r1, r2)) ∧ Aside0 (kq ≤ k) ∧ Aside0 (w'.heap[gb143]? = some (.cells #[.int .i8 a0_0, .int .i8 a0_1] 26 (0, 0))) ∧ Aside0 (w'.heap[gb144]? = some (.cells #[.int .i8 0, .int .i8 0] 34 (0, 0))) ∧ Aside0 (w'.heap[gb145]? = some (.cells #[.int .i8 x146000_1, .int .i8 x146001_1] 34 (0, 0))) ∧ Aside0 (Below w.heap.size w w'))
 case atStart => exact ⟨(0), (0), (0), zi, H', ⟨Nat.le_refl _⟩, zh BK143, zh BK144, zh BK145, zba⟩
 clear H'
 try clear p2
 obtain ⟨x4_1, x146000_1, x146001_1, rfl, HA, HK1, BK143, BK144, BK145, HB⟩ := hrel
 cases gk with
 | zero => exact absurd HA.out (by simp [laws_toCell.l0])
 | succ k1 => ?_
 have H := HA.out
 clear HA
 simp only [laws_toCell.l0] at H
 by_cases c5 : x4_1 < 2
 rotate_left
 ·rw [if_neg c5] at H
  have c5b0 : decide (x4_1 < 2) = false := decide_eq_false c5
  clear c5
  simp only [Option.some.injEq, Prod.mk.injEq] at H
  obtain ⟨rfl, rfl⟩ := H
  have hnb22 := NB145_143.out
  have hnc22 := NB143_145.out
  have hnb23 := NB145_144.out
  have hnc23 := NB144_145.out
  obtain ⟨z24_0, z24_1, y24_0, y24_1⟩ := zB2 BK145
  have hnb25 := NB144_143.out
  have hnc25 := NB143_144.out
  obtain ⟨z26_0, z26_1, y26_0, y26_1⟩ := zB2 BK144
  go_wp2
  refine bodyPost_ret (results_cell_row rfl _ _ gb144 34 #[.int .i8 x146000_1, .int .i8 x146001_1] (0, 0) _ rfl (zp BK144) Try.underlying34 rfl (by kernel_rfl)) rfl ?_
  exact ⟨zv, zbo⟩
 rw [if_pos c5] at H
 have c5b0 : decide (x4_1 < 2) = true := decide_eq_true c5
 clear c5
 by_cases c6 : x4_1 = 0
 ·rw [if_pos c6] at H
  have Ac6 : Aside0 (x4_1 = 0) := ⟨c6⟩
  clear c6
  have ar7e : x4_1 = 0 := by first | exact (show Aside0 (x4_1 = 0) by assumption).out | exact beq_iff_eq.mp (by assumption) | omega
  have ar7n : (x4_1).toNat = 0 := by rw [ar7e]; rfl
  have ar7l : decide (0 ≤ x4_1) = true := decide_eq_true (by omega)
  have ar7L := eq_true (of_decide_eq_true ar7l)
  have ar7h : decide (x4_1 < 2) = true := decide_eq_true (by omega)
  have ar7H := eq_true (of_decide_eq_true ar7h)
  clear ar7e
  have ar8e : x4_1 = 0 := by first | exact (show Aside0 (x4_1 = 0) by assumption).out | exact beq_iff_eq.mp (by assumption) | omega
  have ar8n : (x4_1).toNat = 0 := by rw [ar8e]; rfl
  have ar8l : decide (0 ≤ x4_1) = true := decide_eq_true (by omega)
  have ar8L := eq_true (of_decide_eq_true ar8l)
  have ar8h : decide (x4_1 < 2) = true := decide_eq_true (by omega)
  have ar8H := eq_true (of_decide_eq_true ar8h)
  clear ar8e
  have H' := Aside0.mk H
  clear H
  have hnb9 := NB143_144.out
  have hnc9 := NB144_143.out
  have hnb10 := NB143_145.out
  have hnc10 := NB145_143.out
  obtain ⟨z11_0, z11_1, y11_0, y11_1⟩ := zB2 BK143
  have hnb12 := NB145_144.out
  have hnc12 := NB144_145.out
  obtain ⟨z13_0, z13_1, y13_0, y13_1⟩ := zB2 BK145
  go_wp2
  go_roundg k1
  case measure => have := HK1.out; omega
  case rel => exact ⟨(wrap64 (x4_1 + 1)), (a0_0), (x146001_1), zi, H', ⟨by have := HK1.out; omega⟩, zf BK143 NB143_145, zf BK144 NB144_145, ⟨zp BK145⟩, zba⟩
 rw [if_neg c6] at H
 clear c6
 by_cases c14 : x4_1 = 1
 rotate_left
 ·rw [if_neg c14] at H
  exact absurd H (by simp)
 rw [if_pos c14] at H
 have Ac14 : Aside0 (x4_1 = 1) := ⟨c14⟩
 clear c14
 have ar15e : x4_1 = 1 := by first | exact (show Aside0 (x4_1 = 1) by assumption).out | exact beq_iff_eq.mp (by assumption) | omega
 have ar15n : (x4_1).toNat = 1 := by rw [ar15e]; rfl
 have ar15l : decide (0 ≤ x4_1) = true := decide_eq_true (by omega)
 have ar15L := eq_true (of_decide_eq_true ar15l)
 have ar15h : decide (x4_1 < 2) = true := decide_eq_true (by omega)
 have ar15H := eq_true (of_decide_eq_true ar15h)
 clear ar15e
 have ar16e : x4_1 = 1 := by first | exact (show Aside0 (x4_1 = 1) by assumption).out | exact beq_iff_eq.mp (by assumption) | omega
 have ar16n : (x4_1).toNat = 1 := by rw [ar16e]; rfl
 have ar16l : decide (0 ≤ x4_1) = true := decide_eq_true (by omega)
 have ar16L := eq_true (of_decide_eq_true ar16l)
 have ar16h : decide (x4_1 < 2) = true := decide_eq_true (by omega)
 have ar16H := eq_true (of_decide_eq_true ar16h)
 clear ar16e
 have H' := Aside0.mk H
 clear H
 have hnb17 := NB143_144.out
 have hnc17 := NB144_143.out
 have hnb18 := NB143_145.out
 have hnc18 := NB145_143.out
 obtain ⟨z19_0, z19_1, y19_0, y19_1⟩ := zB2 BK143
 have hnb20 := NB145_144.out
 have hnc20 := NB144_145.out
 obtain ⟨z21_0, z21_1, y21_0, y21_1⟩ := zB2 BK145
 go_wp2
 go_roundg k1
 case measure => have := HK1.out; omega
 case rel => exact ⟨(wrap64 (x4_1 + 1)), (x146000_1), (a0_1), zi, H', ⟨by have := HK1.out; omega⟩, zf BK143 NB143_145, zf BK144 NB144_145, ⟨zp BK145⟩, zba⟩
def laws_toPiece.f (k : Nat) (a0_0 : Int) (a0_1 : Int) (a0_2 : Int) (a0_3 : Int) (a0_4 : Int) : Option (Int × Int × Int × Int × Int) := (laws_toCell.f k a0_0 a0_1).bind fun bt149 => (some (bt149.1, bt149.2, a0_2, a0_3, a0_4))
theorem laws_toPiece.mono : ∀ a0 a1 a2 a3 a4 k, LeO (laws_toPiece.f k a0 a1 a2 a3 a4) (laws_toPiece.f (k + 1) a0 a1 a2 a3 a4) := by
 intro a0 a1 a2 a3 a4 k
 unfold laws_toPiece.f
 repeat' first | (with_reducible first | apply laws_toCell.mono | exact LeO.refl _ | exact LeO.none _ | refine LeO.ite ?_ ?_ | refine LeO.bind ?_ (fun _ => ?_)) | apply laws_toCell.mono | exact LeO.none _ | refine LeO.ite ?_ ?_ | refine LeO.bind ?_ (fun _ => ?_)
theorem laws_toPiece.calls (k : Nat) (a0_0 : Int) (a0_1 : Int) (a0_2 : Int) (a0_3 : Int) (a0_4 : Int) (r1 : Int) (r2 : Int) (r3 : Int) (r4 : Int) (r5 : Int) (w : World) (h : laws_toPiece.f k a0_0 a0_1 a0_2 a0_3 a0_4 = some (r1, r2, r3, r4, r5)) :
    Calls Try.prog 46 #[.agg #[.int .i8 a0_0, .int .i8 a0_1, .int .i8 a0_2, .int .i8 a0_3, .int .i8 a0_4]] w fun e w' => e = .returned (.agg #[.int .i8 r1, .int .i8 r2, .int .i8 r3, .int .i8 r4, .int .i8 r5]) ∧ Below w.heap.size w w' := by
 have hu78 := Try.underlying78
 have hu62 := Try.underlying62
 have hu26 := Try.underlying26
 have hu34 := Try.underlying34
 have HB := Aside0.mk (Below.refl w.heap.size w)
 have H : ((laws_toCell.f k a0_0 a0_1).bind fun bt149 => (some (bt149.1, bt149.2, a0_2, a0_3, a0_4))) = some (r1, r2, r3, r4, r5) := h
 clear h
 replace H := zob H
 obtain ⟨⟨t149, t150⟩, A20, H⟩ := H
 replace H : (some (t149, t150, a0_2, a0_3, a0_4)) = some (r1, r2, r3, r4, r5) := H
 have A2 := Aside0.mk A20
 clear A20
 simp only [Option.some.injEq, Prod.mk.injEq] at H
 obtain ⟨rfl, rfl, rfl, rfl, rfl⟩ := H
 go_enter Try.func46, Try.ntmps46
 go_wp2_with (first | ((with_reducible refine gate_dst (N := 1) rfl ?_); refine zbx 1 #[.int .i8 a0_0, .int .i8 a0_1, .int .i8 a0_2, .int .i8 a0_3, .int .i8 a0_4] 78 ?_; intro gb146 hg w3 hbox hb; have n_ : _ ∧ _ ∧ _ ∧ _ := ⟨zb HB hb, Aside0.mk (hbox), zg HB hg, zg HB hg⟩; clear HB; obtain ⟨HB, BK146, GW146, GE146⟩ := n_; clear hb hbox hg) | ((with_reducible refine gate_dst (N := 2) rfl ?_); refine zbx 2 #[.int .i8 0, .int .i8 0, .int .i8 0, .int .i8 0, .int .i8 0] 62 ?_; intro gb147 hg w4 hbox hb; have n_ : _ ∧ _ ∧ _ ∧ _ ∧ _ ∧ _ ∧ _ := ⟨zk BK146 hb, zbs hb, Aside0.mk (hbox), zg HB hg, zg HB hg, zn1 BK146 hg, zn2 BK146 hg⟩; clear BK146 HB; obtain ⟨BK146, HB, BK147, GW147, GE147, NB146_147, NB147_146⟩ := n_; clear hb hbox hg) | ((with_reducible refine gate_dst (N := 3) rfl ?_); refine zbx 3 #[.int .i8 0, .int .i8 0, .int .i8 0, .int .i8 0, .int .i8 0] 62 ?_; intro gb148 hg w5 hbox hb; have n_ : _ ∧ _ ∧ _ ∧ _ ∧ _ ∧ _ ∧ _ ∧ _ ∧ _ ∧ _ := ⟨zk BK146 hb, zk BK147 hb, zbs hb, Aside0.mk (hbox), zg HB hg, zg HB hg, zn1 BK146 hg, zn2 BK146 hg, zn1 BK147 hg, zn2 BK147 hg⟩; clear BK146 BK147 HB; obtain ⟨BK146, BK147, HB, BK148, GW148, GE148, NB146_148, NB148_146, NB147_148, NB148_147⟩ := n_; clear hb hbox hg; have hnb6 := NB146_147.out; have hnc6 := NB147_146.out; have hnb7 := NB146_148.out; have hnc7 := NB148_146.out; obtain ⟨z8_0, z8_1, z8_2, z8_3, z8_4, y8_0, y8_1, y8_2, y8_3, y8_4⟩ := zB5 BK146) | ((with_reducible refine gate_callee (f := 9) rfl ?_); refine goesL_ (some 6) rfl rfl Try.func9 (by kernel_rfl) rfl #[.agg #[.int .i8 a0_0, .int .i8 a0_1]] rfl zm ?_; (with_reducible refine (laws_toCell.calls k a0_0 a0_1 t149 t150 _ A2.out).mono ?_); rintro e w9 ⟨rfl, hb⟩; refine ⟨_, rfl, ?_⟩; have n_ : _ ∧ _ ∧ _ ∧ _ := ⟨zk BK146 hb, zk BK147 hb, zk BK148 hb, zbs hb⟩; clear BK146 BK147 BK148 HB; obtain ⟨BK146, BK147, BK148, HB⟩ := n_; (try clear hb); (try clear hb2); (try clear hk); (try clear hi); have hnb10 := NB148_147.out; have hnc10 := NB147_148.out; obtain ⟨z11_0, z11_1, z11_2, z11_3, z11_4, y11_0, y11_1, y11_2, y11_3, y11_4⟩ := zB5 BK148; obtain ⟨z12_0, z12_1, z12_2, z12_3, z12_4, y12_0, y12_1, y12_2, y12_3, y12_4⟩ := zB5 BK146; obtain ⟨z13_0, z13_1, z13_2, z13_3, z13_4, y13_0, y13_1, y13_2, y13_3, y13_4⟩ := zB5 BK147))
 refine bodyPost_ret (results_cell_row rfl _ _ gb147 62 #[.int .i8 t149, .int .i8 t150, .int .i8 a0_2, .int .i8 a0_3, .int .i8 a0_4] (0, 0) _ rfl (by (with_reducible repeat (first | refine blk_drewN ?_ _ | refine blk_drew ?_ | refine blk_alloc ?_ _)); refine blk_put (cs := #[.int .i8 t149, .int .i8 t150, .int .i8 a0_2, .int .i8 a0_3, .int .i8 0]) ?_ 4 _ rfl; (with_reducible repeat (first | refine blk_drewN ?_ _ | refine blk_drew ?_ | refine blk_alloc ?_ _)); refine blk_put (cs := #[.int .i8 t149, .int .i8 t150, .int .i8 a0_2, .int .i8 0, .int .i8 0]) ?_ 3 _ rfl; (with_reducible repeat (first | refine blk_drewN ?_ _ | refine blk_drew ?_ | refine blk_alloc ?_ _)); refine blk_put (cs := #[.int .i8 t149, .int .i8 t150, .int .i8 0, .int .i8 0, .int .i8 0]) ?_ 2 _ rfl; (with_reducible repeat (first | refine blk_drewN ?_ _ | refine blk_drew ?_ | refine blk_alloc ?_ _)); refine blk_put (cs := #[.int .i8 t149, .int .i8 0, .int .i8 0, .int .i8 0, .int .i8 0]) ?_ 1 _ rfl; (with_reducible repeat (first | refine blk_drewN ?_ _ | refine blk_drew ?_ | refine blk_alloc ?_ _)); refine blk_put (cs := #[.int .i8 0, .int .i8 0, .int .i8 0, .int .i8 0, .int .i8 0]) ?_ 0 _ rfl; (with_reducible repeat (first | refine blk_drewN ?_ _ | refine blk_drew ?_ | refine blk_alloc ?_ _)); refine blk_far ?_ NB147_148.out _; (with_reducible repeat (first | refine blk_drewN ?_ _ | refine blk_drew ?_ | refine blk_alloc ?_ _)); refine blk_far ?_ NB147_148.out _; (with_reducible repeat (first | refine blk_drewN ?_ _ | refine blk_drew ?_ | refine blk_alloc ?_ _)); refine blk_far ?_ NB147_148.out _; (with_reducible repeat (first | refine blk_drewN ?_ _ | refine blk_drew ?_ | refine blk_alloc ?_ _)); refine blk_far ?_ NB147_148.out _; (with_reducible repeat (first | refine blk_drewN ?_ _ | refine blk_drew ?_ | refine blk_alloc ?_ _)); refine blk_far ?_ NB147_148.out _; (with_reducible repeat (first | refine blk_drewN ?_ _ | refine blk_drew ?_ | refine blk_alloc ?_ _)); exact BK147.out) Try.underlying62 rfl (by kernel_rfl)) rfl ?_
 exact ⟨zv, zbo⟩
end Go.Proofs.Ytdjhcnepndflmaa.PFnExactTakePiece
