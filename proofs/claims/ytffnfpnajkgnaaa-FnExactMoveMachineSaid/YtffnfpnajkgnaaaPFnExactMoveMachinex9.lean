-- WRITTEN by xprint.py, a program of this session's. Not trusted: Lean checks it.
-- packed by pack.py
import Derived.Test.YtffnfpnajkgnaaaPFnExactMoveMachinex0
import Derived.Test.YtffnfpnajkgnaaaTFnExactMoveMachinea
namespace Go.Proofs.Ytffnfpnajkgnaaa.PFnExactMoveMachine
open Go.RowKit Go.Proofs.YtffnfpnajkgnaaaW.PrintWords Go.Proofs.YtffnfpnajkgnaaaW.PrintLast Go.Proofs.YtffnfpnajkgnaaaW.PrintMore Go.Proofs.YtffnfpnajkgnaaaX
attribute [local go_sem] max2_int min2_int max_two min_two max_three min_three max_four min_four   -- for this text's walks alone
set_option maxHeartbeats 8000000
set_option maxRecDepth 100000
set_option linter.unusedVariables false
set_option linter.unusedSimpArgs false

def spec_l01Copy.f (l0 : List (S37)) : Option (Int × Int × (List (S91))) := if 0 < (l0.length : Int) then ((some (([] : List (S91)) : List (S91))).bind fun y243 => (if y243.length + ((rd_T37 l0 0).f2).length < 28147497671065 then (some ((rd_T37 l0 0).f0, (rd_T37 l0 0).f1, (y243 ++ ((rd_T37 l0 0).f2)))) else (none))) else (none)
def spec_l01Copy.T1 : Bool × List (List Nat × List Nat) := (true, [([], []), ([0], [0]), ([1], [1]), ([2], [2]), ([], []), ([4], [4]), ([5], [5]), ([6], [6]), ([], []), ([], []), ([9], [9]), ([10], [10]), ([11], [11]), ([8, 12], [8, 12]), ([3, 7, 13], [3, 7, 13]), ([14, 13, 0, 1, 2, 3, 4, 5, 6, 7, 8, 9, 10, 11, 12, 13, 14], [14])])
def spec_l01Copy.B1 : List Nat := [0, 1, 3, 7, 0, 16, 48, 112, 0, 0, 512, 1536, 3584, 7936, 16383, 32767]
theorem spec_l01Copy.tab1 : rtab .any (opsOf Try.f131 1) = spec_l01Copy.T1 := by kernel_rfl
theorem spec_l01Copy.bits1 : waitsOk spec_l01Copy.T1.2 spec_l01Copy.B1 = true := by kernel_rfl
theorem spec_l01Copy.calls (adp0 : Addr) (l0 : List (S37)) (r1 : Int) (r2 : Int) (r3 : List (S91)) (w : World) (hr0 : Kd.C k37 w (some adp0) l0.length l0) (h : spec_l01Copy.f l0 = some (r1, r2, r3)) :
    Calls Try.prog 131 #[.pointer (some adp0)] w fun e w' => ∃ v2_ : Value, e = .returned (.agg #[.int .i8 r1, .int .i8 r2, v2_]) ∧ Kd.R k91 91 w' w.heap.size (fun _ => True) v2_ r3 ∧ Below w.heap.size w w' := by
 have hu37 := Try.underlying37
 have HR0 := Aside0.mk hr0
 clear hr0
 have HB := Aside0.mk (Below.refl w.heap.size w)
 have H : (if 0 < (l0.length : Int) then ((some (([] : List (S91)) : List (S91))).bind fun y243 => (if y243.length + ((rd_T37 l0 0).f2).length < 28147497671065 then (some ((rd_T37 l0 0).f0, (rd_T37 l0 0).f1, (y243 ++ ((rd_T37 l0 0).f2)))) else (none))) else (none)) = some (r1, r2, r3) := h
 clear h
 by_cases c2 : 0 < (l0.length : Int)
 rotate_left
 ·rw [if_neg c2] at H
  exact absurd H (by simp)
 rw [if_pos c2] at H
 have c2b0 : decide (0 < (l0.length : Int)) = true := decide_eq_true c2
 have c2b1 : decide (0 < l0.length) = true := decide_eq_true (by omega)
 clear c2
 obtain ⟨y243, hy243⟩ : ∃ y_ : List (S91), y_ = (([] : List (S91))) := ⟨_, rfl⟩
 replace H : (if y243.length + ((rd_T37 l0 0).f2).length < 28147497671065 then (some ((rd_T37 l0 0).f0, (rd_T37 l0 0).f1, (y243 ++ ((rd_T37 l0 0).f2)))) else (none)) = some (r1, r2, r3) := by first | (rw [hy243]; with_reducible exact H) | (have H2_ := (Option.bind_some _ _).symm.trans H; rw [hy243]; with_reducible exact H2_) | (have H2_ := (Option.bind_some _ _).symm.trans H; with_reducible exact H2_) | with_reducible exact H | (rw [hy243]; exact H) | exact H
 have Ny243 := Aside0.mk hy243
 clear hy243
 by_cases c3 : y243.length + ((rd_T37 l0 0).f2).length < 28147497671065
 rotate_left
 ·rw [if_neg c3] at H
  exact absurd H (by simp)
 rw [if_pos c3] at H
 have LMc3 := Aside0.mk c3
 clear c3
 obtain ⟨y247, hy247⟩ : ∃ y_ : List (S91), y_ = (y243 ++ ((rd_T37 l0 0).f2)) := ⟨_, rfl⟩
 replace H : (some ((rd_T37 l0 0).f0, (rd_T37 l0 0).f1, y247)) = some (r1, r2, r3) := by first | (rw [hy247]; with_reducible exact H) | (have H2_ := (Option.bind_some _ _).symm.trans H; rw [hy247]; with_reducible exact H2_) | (have H2_ := (Option.bind_some _ _).symm.trans H; with_reducible exact H2_) | with_reducible exact H | (rw [hy247]; exact H) | exact H
 have Ny247 := Aside0.mk hy247
 clear hy247
 simp only [Option.some.injEq, Prod.mk.injEq] at H
 obtain ⟨rfl, rfl, rfl⟩ := H
 go_enter Try.func131, Try.ntmps131
 try go_wp2_with (first | ((with_reducible refine gate_dst (N := 2) rfl ?_); refine zbx 2 #[.int .i8 0, .int .i8 0, .slice none 0 0] 37 ?_; intro gb240 hg w4 hbox hb; have n_ : _ ∧ _ ∧ _ ∧ _ := ⟨zb HB hb, Aside0.mk (hbox), zg HB hg, zg HB hg⟩; clear HB; obtain ⟨HB, BK240, GW240, GE240⟩ := n_; clear hb hbox hg))
 have n_ : _ ∧ _ := ⟨Aside0.mk (blk_drew BK240.out), Aside0.mk (below_drew1 HB.out)⟩
 clear BK240 HB
 obtain ⟨BK240, HB⟩ := n_
 have p241 : 0 ≤ (0 : Int) := (by omega)
 have q241 : 0 < (l0.length : Int) := of_decide_eq_true zA
 obtain ⟨ad241, A241_2, c241_2, e241, hx241_0, hx241_1, hx241_2, hl241_2, hi241_2⟩ := at_T37 HR0.out 0 p241 q241
 have hw241_2 := hx241_2
 try simp only [z00, Nat.zero_mul, Addr.add_zero'] at hw241_2
 have hw241_1 := hx241_1
 try simp only [z00, Nat.zero_mul, Addr.add_zero'] at hw241_1
 have hw241_0 := hx241_0
 try simp only [z00, Nat.zero_mul, Addr.add_zero'] at hw241_0
 obtain rfl : adp0 = ad241 := (by injection e241)
 have qi241 : (0 < l0.length) = True := eq_true (by omega)
 try simp only [z00, Nat.zero_mul, Addr.add_zero'] at hx241_0 hx241_1 hx241_2
 replace hx241_0 := zc HB hx241_0
 replace hx241_1 := zc HB hx241_1
 replace hx241_2 := zc HB hx241_2
 have HR241_2 := Aside0.mk hi241_2
 have HC241_2 := Aside0.mk hl241_2
 clear hi241_2 hl241_2
 replace p241 := eq_true p241
 replace q241 := eq_true q241
 have p242 : 0 ≤ (0 : Int) := (by omega)
 have q242 : 0 < (l0.length : Int) := of_decide_eq_true zA
 obtain ⟨ad242, A242_2, c242_2, e242, hx242_0, hx242_1, hx242_2, hl242_2, hi242_2⟩ := at_T37 HR0.out 0 p242 q242
 have hw242_2 := hx242_2
 try simp only [z00, Nat.zero_mul, Addr.add_zero'] at hw242_2
 have hw242_1 := hx242_1
 try simp only [z00, Nat.zero_mul, Addr.add_zero'] at hw242_1
 have hw242_0 := hx242_0
 try simp only [z00, Nat.zero_mul, Addr.add_zero'] at hw242_0
 obtain rfl : adp0 = ad242 := (by injection e242)
 have qi242 : (0 < l0.length) = True := eq_true (by omega)
 try simp only [z00, Nat.zero_mul, Addr.add_zero'] at hx242_0 hx242_1 hx242_2
 replace hx242_0 := zc HB hx242_0
 replace hx242_1 := zc HB hx242_1
 replace hx242_2 := zc HB hx242_2
 have HR242_2 := Aside0.mk hi242_2
 have HC242_2 := Aside0.mk hl242_2
 clear hi242_2 hl242_2
 replace p242 := eq_true p242
 replace q242 := eq_true q242
 have ea_ := Option.some.inj (hx241_2.symm.trans hx242_2)
 injection ea_ with ea_ en_ ec_
 subst ea_
 subst ec_
 clear en_
 have p246 : 0 ≤ (0 : Int) := (by omega)
 have q246 : 0 < (l0.length : Int) := of_decide_eq_true zA
 obtain ⟨ad246, A246_2, c246_2, e246, hx246_0, hx246_1, hx246_2, hl246_2, hi246_2⟩ := at_T37 HR0.out 0 p246 q246
 have hw246_2 := hx246_2
 try simp only [z00, Nat.zero_mul, Addr.add_zero'] at hw246_2
 have hw246_1 := hx246_1
 try simp only [z00, Nat.zero_mul, Addr.add_zero'] at hw246_1
 have hw246_0 := hx246_0
 try simp only [z00, Nat.zero_mul, Addr.add_zero'] at hw246_0
 obtain rfl : adp0 = ad246 := (by injection e246)
 have qi246 : (0 < l0.length) = True := eq_true (by omega)
 try simp only [z00, Nat.zero_mul, Addr.add_zero'] at hx246_0 hx246_1 hx246_2
 replace hx246_0 := zc HB hx246_0
 replace hx246_1 := zc HB hx246_1
 replace hx246_2 := zc HB hx246_2
 have HR246_2 := Aside0.mk hi246_2
 have HC246_2 := Aside0.mk hl246_2
 clear hi246_2 hl246_2
 replace p246 := eq_true p246
 replace q246 := eq_true q246
 have ea_ := Option.some.inj (hx241_2.symm.trans hx246_2)
 injection ea_ with ea_ en_ ec_
 subst ea_
 subst ec_
 clear en_
 refine start_ (n := 16) (S := fun w' => w'.cell? adp0 = some (.int .i8 ((rd_T37 l0 0).f0)) ∧ w'.cell? ⟨adp0.block, adp0.off + 1, none⟩ = some (.int .i8 ((rd_T37 l0 0).f1)) ∧ w'.cell? ⟨adp0.block, adp0.off + 2, none⟩ = some (.slice A241_2 ((rd_T37 l0 0).f2).length c241_2) ∧ w'.cell? adp0 = some (.int .i8 ((rd_T37 l0 0).f0)) ∧ w'.cell? ⟨adp0.block, adp0.off + 1, none⟩ = some (.int .i8 ((rd_T37 l0 0).f1)) ∧ w'.cell? ⟨adp0.block, adp0.off + 2, none⟩ = some (.slice A241_2 ((rd_T37 l0 0).f2).length c241_2) ∧ w'.cell? adp0 = some (.int .i8 ((rd_T37 l0 0).f0)) ∧ w'.cell? ⟨adp0.block, adp0.off + 1, none⟩ = some (.int .i8 ((rd_T37 l0 0).f1)) ∧ w'.cell? ⟨adp0.block, adp0.off + 2, none⟩ = some (.slice A241_2 ((rd_T37 l0 0).f2).length c241_2)) (ds := []) (zq 16 0) (by kernel_rfl) rfl rfl ⟨(zc HB hw241_0), (zc HB hw241_1), (zc HB hw241_2), (zc HB hw242_0), (zc HB hw242_1), (zc HB hw242_2), (zc HB hw246_0), (zc HB hw246_1), (zc HB hw246_2)⟩ (fun hHeld => ?_); refine with_tabW spec_l01Copy.tab1 spec_l01Copy.bits1 (fun HT_ HW_ => ?_)
 generalize w4.drew = w5 at BK240 HB HR241_2 HR242_2 HR246_2 hx241_0 hx241_1 hx241_2 hx242_0 hx242_1 hx242_2 hx246_0 hx246_1 hx246_2 hHeld ⊢
 refine zpu 0 (some 3) (zq 16 1) HT_ ?_
 refine zpu 1 (some 4) (zq 16 3) HT_ ?_
 refine zpu 2 (some 5) (zq 16 7) HT_ ?_
 refine zpu 4 (some 7) (zq 16 23) HT_ ?_
 refine zpu 5 (some 8) (zq 16 55) HT_ ?_
 refine zpu 6 (some 9) (zq 16 119) HT_ ?_
 refine zpu 9 (some 12) (zq 16 631) HT_ ?_
 refine zpu 10 (some 13) (zq 16 1655) HT_ ?_
 refine zpu 11 (some 14) (zq 16 3703) HT_ ?_
 refine ztk 3 (some 6) (zq 16 3711) HT_ HW_ rfl hHeld (Or.inl ⟨by rfl, by (rintro w' ⟨s0, s1, s2, s3, s4, s5, s6, s7, s8⟩; go_simp; with_reducible rfl)⟩) ?_
 refine ztk 7 (some 10) (zq 16 3839) HT_ HW_ rfl hHeld (Or.inl ⟨by rfl, by (rintro w' ⟨s0, s1, s2, s3, s4, s5, s6, s7, s8⟩; go_simp; with_reducible rfl)⟩) ?_
 refine ztk 12 (some 15) (zq 16 7935) HT_ HW_ rfl hHeld (Or.inl ⟨by rfl, by (rintro w' ⟨s0, s1, s2, s3, s4, s5, s6, s7, s8⟩; go_simp; with_reducible rfl)⟩) ?_
 refine one_ (i := 8) (N := some 11) (zq 16 8191) rfl rfl (one_of HT_.out (by kernel_rfl)) (by decide) (fun K hK => ?_)
 refine Kd.R_lit_step k91 _ 91 ?hg (N := 11) ?hd (xs := ([] : List (S91))) (inner := []) (ok := fun _ => True) (okp := fun _ => True) ?hr ?hp (fun _ hk => hk) trivial (Below.refl _ _) (Nat.le_refl _) (by simp) ?_; (case hd => rfl); (case hg => rfl); (case hr => exact zgs); (case hp => exact (Reps.none _ _))
 intro v244 w6 ho7 hb hg_ hnew_
 clear hg_ hnew_
 (first | rw [← Ny243.out] at ho7 | (simp only [Int.reduceToNat] at ho7; rw [← Ny243.out] at ho7))
 have n_ : _ ∧ _ ∧ _ := ⟨Aside0.mk (Kd.R_lower ho7 (zz HB)), zk BK240 hb, zbs hb⟩
 clear BK240 HB
 obtain ⟨HO245, BK240, HB⟩ := n_
 clear hb ho7
 refine hK.out _ _ ⟨(zc HB hw241_0), (zc HB hw241_1), (zc HB hw241_2), (zc HB hw242_0), (zc HB hw242_1), (zc HB hw242_2), (zc HB hw246_0), (zc HB hw246_1), (zc HB hw246_2)⟩ (fun hHeld => ?_)
 clear hK K
 refine norm_ (a' := ?_) ?_ ?_
 rotate_left
 ·show Act.put _ (some 11) _ = _
  exact zap
 refine one_ (i := 13) (N := some 16) (zq 16 16383) rfl rfl (one_of HT_.out (by kernel_rfl)) (by decide) (fun K hK => ?_)
 refine Kd.R_append_rows_step k91 (w0 := w) w.heap.size (by rfl) (.tmp 11) (.tmp 15) 35 91 (.agg #[(.int .i8 0), (.int .i8 0), (.int .i8 0), (.int .i8 0), (.int .i8 0)]) 5 rfl Try.underlying35 info91 rfl (by decide) (by omega) v244 y243 ((rd_T37 l0 0).f2) _ _ _ (fun _ => True) (fun _ => False) rfl rfl ?aO ?aR (fun _ _ h => h) (fun _ h => h.elim) ?aF ?aB ?aS ?aL ?_
 (case aR => exact zcc HB HR246_2.out)
 (case aB => exact zbo)
 (case aF => exact (fun _ _ => trivial))
 (case aO => exact (ze HO245).out)
 (case aS => exact (zz HB))
 (case aL => have := LMc3.out; omega)
 intro v248 w8 ho hb hg hat
 rw [← Ny247.out] at ho
 have n_ : _ ∧ _ ∧ _ := ⟨Aside0.mk (blk_grown (g := gb240) (o := .cells #[.int .i8 0, .int .i8 0, .slice none 0 0] 37 (0, 0)) (zh BK240).out hg (Kd.R_ne HO245.out BK240.out (by decide))), Aside0.mk (hb), Aside0.mk (ho)⟩
 clear BK240 HB HO245
 obtain ⟨BK240, HB, HO249⟩ := n_
 clear ho hb hg hat
 obtain ⟨Ao9, co9, eo9⟩ := Kd.R_slice HO249.out
 (first | subst eo9 | (injection eo9 with f1_ f2_ f3_; have f4_ := f1_.symm; have f5_ := f3_.symm; clear f1_ f2_ f3_; subst f4_; subst f5_))
 refine hK.out _ _ ⟨(zc HB hw241_0), (zc HB hw241_1), (zc HB hw241_2), (zc HB hw242_0), (zc HB hw242_1), (zc HB hw242_2), (zc HB hw246_0), (zc HB hw246_1), (zc HB hw246_2)⟩ (fun hHeld => ?_)
 clear hK K
 refine norm_ (a' := ?_) ?_ ?_
 rotate_left
 ·show Act.put _ (some 16) _ = _
  exact zap
 refine zpu 14 (some 17) (zq 16 32767) HT_ ?_
 refine one_ (i := 15) (N := none) (zq 16 65535) rfl rfl (one_of HT_.out (by kernel_rfl)) (by decide) (fun K hK => ?_)
 have hs10 : w8.cell? ⟨gb240, 0, none⟩ = some (.int .i8 0) := (blk_cell BK240.out 0).trans rfl
 have hfs10 := blk_frozen BK240.out 0
 have hs11 : w8.cell? ⟨gb240, 1, none⟩ = some (.int .i8 0) := (blk_cell BK240.out 1).trans rfl
 have hfs11 := blk_frozen BK240.out 1
 have hs12 : w8.cell? ⟨gb240, 2, none⟩ = some (.slice none 0 0) := (blk_cell BK240.out 2).trans rfl
 have hfs12 := blk_frozen BK240.out 2
 refine skip_ (w1 := ?_) (by rfl) rfl ?_ ?_
 rotate_left
 ·go_simp
  rfl
 refine hK.out _ _ ⟨(zcf hw241_0 GW240 ((zcf hw241_0 GW240 ((zcf hw241_0 GW240 (hHeld.1)))))), (zcf hw241_1 GW240 ((zcf hw241_1 GW240 ((zcf hw241_1 GW240 (hHeld.2.1)))))), (zcf hw241_2 GW240 ((zcf hw241_2 GW240 ((zcf hw241_2 GW240 (hHeld.2.2.1)))))), (zcf hw242_0 GW240 ((zcf hw242_0 GW240 ((zcf hw242_0 GW240 (hHeld.2.2.2.1)))))), (zcf hw242_1 GW240 ((zcf hw242_1 GW240 ((zcf hw242_1 GW240 (hHeld.2.2.2.2.1)))))), (zcf hw242_2 GW240 ((zcf hw242_2 GW240 ((zcf hw242_2 GW240 (hHeld.2.2.2.2.2.1)))))), (zcf hw246_0 GW240 ((zcf hw246_0 GW240 ((zcf hw246_0 GW240 (hHeld.2.2.2.2.2.2.1)))))), (zcf hw246_1 GW240 ((zcf hw246_1 GW240 ((zcf hw246_1 GW240 (hHeld.2.2.2.2.2.2.2.1)))))), (zcf hw246_2 GW240 ((zcf hw246_2 GW240 ((zcf hw246_2 GW240 (hHeld.2.2.2.2.2.2.2.2))))))⟩ (fun hHeld => ?_)
 clear hK K
 refine done_ (done_of HT_.out (by kernel_rfl)) ?_
 try go_wp2
 refine bodyPost_ret (results_cell_row rfl _ _ gb240 37 #[.int .i8 ((rd_T37 l0 0).f0), .int .i8 ((rd_T37 l0 0).f1), .slice Ao9 y247.length co9] (0, 0) _ rfl (zp BK240) Try.underlying37 rfl (by kernel_rfl)) rfl ?_
 exact ⟨_, zv, Kd.R_mono (zs HO249 BK240).out (fun _ hk => trivial), zbo⟩
end Go.Proofs.Ytffnfpnajkgnaaa.PFnExactMoveMachine
