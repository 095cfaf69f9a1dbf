-- WRITTEN by xprint.py, a program of this session's. Not trusted: Lean checks it.
-- packed by pack.py
import Derived.Test.YtffnfpnajkgnaaaPFnExactJoinBoardsx0
import Derived.Test.YtffnfpnajkgnaaaTFnExactJoinBoardsa
namespace Go.Proofs.Ytffnfpnajkgnaaa.PFnExactJoinBoards
open Go.RowKit Go.Proofs.YtffnfpnajkgnaaaW.PrintWords Go.Proofs.YtffnfpnajkgnaaaW.PrintLast Go.Proofs.YtffnfpnajkgnaaaW.PrintMore Go.Proofs.YtffnfpnajkgnaaaX
attribute [local go_sem] max2_int min2_int max_two min_two max_three min_three max_four min_four   -- for this text's walks alone
set_option maxHeartbeats 8000000
set_option maxRecDepth 100000
set_option linter.unusedVariables false
set_option linter.unusedSimpArgs false

def spec_l01Copy.f (l0 : List (S37)) : Option (Int × Int × (List (S91))) := if 0 < (l0.length : Int) then ((some (([] : List (S91)) : List (S91))).bind fun y185 => (if y185.length + ((rd_T37 l0 0).f2).length < 28147497671065 then (some ((rd_T37 l0 0).f0, (rd_T37 l0 0).f1, (y185 ++ ((rd_T37 l0 0).f2)))) else (none))) else (none)
def spec_l01Copy.T1 : Bool × List (List Nat × List Nat) := (true, [([], []), ([0], [0]), ([1], [1]), ([2], [2]), ([], []), ([4], [4]), ([5], [5]), ([6], [6]), ([], []), ([], []), ([9], [9]), ([10], [10]), ([11], [11]), ([8, 12], [8, 12]), ([3, 7, 13], [3, 7, 13]), ([14, 13, 0, 1, 2, 3, 4, 5, 6, 7, 8, 9, 10, 11, 12, 13, 14], [14])])
def spec_l01Copy.B1 : List Nat := [0, 1, 3, 7, 0, 16, 48, 112, 0, 0, 512, 1536, 3584, 7936, 16383, 32767]
theorem spec_l01Copy.tab1 : rtab .any (opsOf Try.f131 1) = spec_l01Copy.T1 := by kernel_rfl
theorem spec_l01Copy.bits1 : waitsOk spec_l01Copy.T1.2 spec_l01Copy.B1 = true := by kernel_rfl
theorem spec_l01Copy.calls (adp0 : Addr) (l0 : List (S37)) (r1 : Int) (r2 : Int) (r3 : List (S91)) (w : World) (hr0 : Kd.C k37 w (some adp0) l0.length l0) (h : spec_l01Copy.f l0 = some (r1, r2, r3)) :
    Calls Try.prog 131 #[.pointer (some adp0)] w fun e w' => ∃ v2_ : Value, e = .returned (.agg #[.int .i8 r1, .int .i8 r2, v2_]) ∧ Kd.R k91 91 w' w.heap.size (fun _ => True) v2_ r3 ∧ Below w.heap.size w w' := by
 have hu37 := Try.underlying37
 have HR0 := Aside0.mk hr0
 clear hr0
 have HB := Aside0.mk (Below.refl w.heap.size w)
 have H : (if 0 < (l0.length : Int) then ((some (([] : List (S91)) : List (S91))).bind fun y185 => (if y185.length + ((rd_T37 l0 0).f2).length < 28147497671065 then (some ((rd_T37 l0 0).f0, (rd_T37 l0 0).f1, (y185 ++ ((rd_T37 l0 0).f2)))) else (none))) else (none)) = some (r1, r2, r3) := h
 clear h
 by_cases c2 : 0 < (l0.length : Int)
 rotate_left
 ·rw [if_neg c2] at H
  exact absurd H (by simp)
 rw [if_pos c2] at H
 have c2b0 : decide (0 < (l0.length : Int)) = true := decide_eq_true c2
 have c2b1 : decide (0 < l0.length) = true := decide_eq_true (by omega)
 clear c2
 obtain ⟨y185, hy185⟩ : ∃ y_ : List (S91), y_ = (([] : List (S91))) := ⟨_, rfl⟩
 replace H : (if y185.length + ((rd_T37 l0 0).f2).length < 28147497671065 then (some ((rd_T37 l0 0).f0, (rd_T37 l0 0).f1, (y185 ++ ((rd_T37 l0 0).f2)))) else (none)) = some (r1, r2, r3) := by first | (rw [hy185]; with_reducible exact H) | (have H2_ := (Option.bind_some _ _).symm.trans H; rw [hy185]; with_reducible exact H2_) | (have H2_ := (Option.bind_some _ _).symm.trans H; with_reducible exact H2_) | with_reducible exact H | (rw [hy185]; exact H) | exact H
 have Ny185 := Aside0.mk hy185
 clear hy185
 by_cases c3 : y185.length + ((rd_T37 l0 0).f2).length < 28147497671065
 rotate_left
 ·rw [if_neg c3] at H
  exact absurd H (by simp)
 rw [if_pos c3] at H
 have LMc3 := Aside0.mk c3
 clear c3
 obtain ⟨y189, hy189⟩ : ∃ y_ : List (S91), y_ = (y185 ++ ((rd_T37 l0 0).f2)) := ⟨_, rfl⟩
 replace H : (some ((rd_T37 l0 0).f0, (rd_T37 l0 0).f1, y189)) = some (r1, r2, r3) := by first | (rw [hy189]; with_reducible exact H) | (have H2_ := (Option.bind_some _ _).symm.trans H; rw [hy189]; with_reducible exact H2_) | (have H2_ := (Option.bind_some _ _).symm.trans H; with_reducible exact H2_) | with_reducible exact H | (rw [hy189]; exact H) | exact H
 have Ny189 := Aside0.mk hy189
 clear hy189
 simp only [Option.some.injEq, Prod.mk.injEq] at H
 obtain ⟨rfl, rfl, rfl⟩ := H
 go_enter Try.func131, Try.ntmps131
 try go_wp2_with (first | ((with_reducible refine gate_dst (N := 2) rfl ?_); refine zbx 2 #[.int .i8 0, .int .i8 0, .slice none 0 0] 37 ?_; intro gb182 hg w4 hbox hb; have n_ : _ ∧ _ ∧ _ ∧ _ := ⟨zb HB hb, Aside0.mk (hbox), zg HB hg, zg HB hg⟩; clear HB; obtain ⟨HB, BK182, GW182, GE182⟩ := n_; clear hb hbox hg))
 have n_ : _ ∧ _ := ⟨Aside0.mk (blk_drew BK182.out), Aside0.mk (below_drew1 HB.out)⟩
 clear BK182 HB
 obtain ⟨BK182, HB⟩ := n_
 have p183 : 0 ≤ (0 : Int) := (by omega)
 have q183 : 0 < (l0.length : Int) := of_decide_eq_true zA
 obtain ⟨ad183, A183_2, c183_2, e183, hx183_0, hx183_1, hx183_2, hl183_2, hi183_2⟩ := at_T37 HR0.out 0 p183 q183
 have hw183_2 := hx183_2
 try simp only [z00, Nat.zero_mul, Addr.add_zero'] at hw183_2
 have hw183_1 := hx183_1
 try simp only [z00, Nat.zero_mul, Addr.add_zero'] at hw183_1
 have hw183_0 := hx183_0
 try simp only [z00, Nat.zero_mul, Addr.add_zero'] at hw183_0
 obtain rfl : adp0 = ad183 := (by injection e183)
 have qi183 : (0 < l0.length) = True := eq_true (by omega)
 try simp only [z00, Nat.zero_mul, Addr.add_zero'] at hx183_0 hx183_1 hx183_2
 replace hx183_0 := zc HB hx183_0
 replace hx183_1 := zc HB hx183_1
 replace hx183_2 := zc HB hx183_2
 have HR183_2 := Aside0.mk hi183_2
 have HC183_2 := Aside0.mk hl183_2
 clear hi183_2 hl183_2
 replace p183 := eq_true p183
 replace q183 := eq_true q183
 have p184 : 0 ≤ (0 : Int) := (by omega)
 have q184 : 0 < (l0.length : Int) := of_decide_eq_true zA
 obtain ⟨ad184, A184_2, c184_2, e184, hx184_0, hx184_1, hx184_2, hl184_2, hi184_2⟩ := at_T37 HR0.out 0 p184 q184
 have hw184_2 := hx184_2
 try simp only [z00, Nat.zero_mul, Addr.add_zero'] at hw184_2
 have hw184_1 := hx184_1
 try simp only [z00, Nat.zero_mul, Addr.add_zero'] at hw184_1
 have hw184_0 := hx184_0
 try simp only [z00, Nat.zero_mul, Addr.add_zero'] at hw184_0
 obtain rfl : adp0 = ad184 := (by injection e184)
 have qi184 : (0 < l0.length) = True := eq_true (by omega)
 try simp only [z00, Nat.zero_mul, Addr.add_zero'] at hx184_0 hx184_1 hx184_2
 replace hx184_0 := zc HB hx184_0
 replace hx184_1 := zc HB hx184_1
 replace hx184_2 := zc HB hx184_2
 have HR184_2 := Aside0.mk hi184_2
 have HC184_2 := Aside0.mk hl184_2
 clear hi184_2 hl184_2
 replace p184 := eq_true p184
 replace q184 := eq_true q184
 have ea_ := Option.some.inj (hx183_2.symm.trans hx184_2)
 injection ea_ with ea_ en_ ec_
 subst ea_
 subst ec_
 clear en_
 have p188 : 0 ≤ (0 : Int) := (by omega)
 have q188 : 0 < (l0.length : Int) := of_decide_eq_true zA
 obtain ⟨ad188, A188_2, c188_2, e188, hx188_0, hx188_1, hx188_2, hl188_2, hi188_2⟩ := at_T37 HR0.out 0 p188 q188
 have hw188_2 := hx188_2
 try simp only [z00, Nat.zero_mul, Addr.add_zero'] at hw188_2
 have hw188_1 := hx188_1
 try simp only [z00, Nat.zero_mul, Addr.add_zero'] at hw188_1
 have hw188_0 := hx188_0
 try simp only [z00, Nat.zero_mul, Addr.add_zero'] at hw188_0
 obtain rfl : adp0 = ad188 := (by injection e188)
 have qi188 : (0 < l0.length) = True := eq_true (by omega)
 try simp only [z00, Nat.zero_mul, Addr.add_zero'] at hx188_0 hx188_1 hx188_2
 replace hx188_0 := zc HB hx188_0
 replace hx188_1 := zc HB hx188_1
 replace hx188_2 := zc HB hx188_2
 have HR188_2 := Aside0.mk hi188_2
 have HC188_2 := Aside0.mk hl188_2
 clear hi188_2 hl188_2
 replace p188 := eq_true p188
 replace q188 := eq_true q188
 have ea_ := Option.some.inj (hx183_2.symm.trans hx188_2)
 injection ea_ with ea_ en_ ec_
 subst ea_
 subst ec_
 clear en_
 refine start_ (n := 16) (S := fun w' => w'.cell? adp0 = some (.int .i8 ((rd_T37 l0 0).f0)) ∧ w'.cell? ⟨adp0.block, adp0.off + 1, none⟩ = some (.int .i8 ((rd_T37 l0 0).f1)) ∧ w'.cell? ⟨adp0.block, adp0.off + 2, none⟩ = some (.slice A183_2 ((rd_T37 l0 0).f2).length c183_2) ∧ w'.cell? adp0 = some (.int .i8 ((rd_T37 l0 0).f0)) ∧ w'.cell? ⟨adp0.block, adp0.off + 1, none⟩ = some (.int .i8 ((rd_T37 l0 0).f1)) ∧ w'.cell? ⟨adp0.block, adp0.off + 2, none⟩ = some (.slice A183_2 ((rd_T37 l0 0).f2).length c183_2) ∧ w'.cell? adp0 = some (.int .i8 ((rd_T37 l0 0).f0)) ∧ w'.cell? ⟨adp0.block, adp0.off + 1, none⟩ = some (.int .i8 ((rd_T37 l0 0).f1)) ∧ w'.cell? ⟨adp0.block, adp0.off + 2, none⟩ = some (.slice A183_2 ((rd_T37 l0 0).f2).length c183_2)) (ds := []) (zq 16 0) (by kernel_rfl) rfl rfl ⟨(zc HB hw183_0), (zc HB hw183_1), (zc HB hw183_2), (zc HB hw184_0), (zc HB hw184_1), (zc HB hw184_2), (zc HB hw188_0), (zc HB hw188_1), (zc HB hw188_2)⟩ (fun hHeld => ?_); refine with_tabW spec_l01Copy.tab1 spec_l01Copy.bits1 (fun HT_ HW_ => ?_)
 generalize w4.drew = w5 at BK182 HB HR183_2 HR184_2 HR188_2 hx183_0 hx183_1 hx183_2 hx184_0 hx184_1 hx184_2 hx188_0 hx188_1 hx188_2 hHeld ⊢
 refine zpu 0 (some 3) (zq 16 1) HT_ ?_
 refine zpu 1 (some 4) (zq 16 3) HT_ ?_
 refine zpu 2 (some 5) (zq 16 7) HT_ ?_
 refine zpu 4 (some 7) (zq 16 23) HT_ ?_
 refine zpu 5 (some 8) (zq 16 55) HT_ ?_
 refine zpu 6 (some 9) (zq 16 119) HT_ ?_
 refine zpu 9 (some 12) (zq 16 631) HT_ ?_
 refine zpu 10 (some 13) (zq 16 1655) HT_ ?_
 refine zpu 11 (some 14) (zq 16 3703) HT_ ?_
 refine ztk 3 (some 6) (zq 16 3711) HT_ HW_ rfl hHeld (Or.inl ⟨by rfl, by (rintro w' ⟨s0, s1, s2, s3, s4, s5, s6, s7, s8⟩; go_simp; with_reducible rfl)⟩) ?_
 refine ztk 7 (some 10) (zq 16 3839) HT_ HW_ rfl hHeld (Or.inl ⟨by rfl, by (rintro w' ⟨s0, s1, s2, s3, s4, s5, s6, s7, s8⟩; go_simp; with_reducible rfl)⟩) ?_
 refine ztk 12 (some 15) (zq 16 7935) HT_ HW_ rfl hHeld (Or.inl ⟨by rfl, by (rintro w' ⟨s0, s1, s2, s3, s4, s5, s6, s7, s8⟩; go_simp; with_reducible rfl)⟩) ?_
 refine one_ (i := 8) (N := some 11) (zq 16 8191) rfl rfl (one_of HT_.out (by kernel_rfl)) (by decide) (fun K hK => ?_)
 refine Kd.R_lit_step k91 _ 91 ?hg (N := 11) ?hd (xs := ([] : List (S91))) (inner := []) (ok := fun _ => True) (okp := fun _ => True) ?hr ?hp (fun _ hk => hk) trivial (Below.refl _ _) (Nat.le_refl _) (by simp) ?_; (case hd => rfl); (case hg => rfl); (case hr => exact zgs); (case hp => exact (Reps.none _ _))
 intro v186 w6 ho7 hb hg_ hnew_
 clear hg_ hnew_
 (first | rw [← Ny185.out] at ho7 | (simp only [Int.reduceToNat] at ho7; rw [← Ny185.out] at ho7))
 have n_ : _ ∧ _ ∧ _ := ⟨Aside0.mk (Kd.R_lower ho7 (zz HB)), zk BK182 hb, zbs hb⟩
 clear BK182 HB
 obtain ⟨HO187, BK182, HB⟩ := n_
 clear hb ho7
 refine hK.out _ _ ⟨(zc HB hw183_0), (zc HB hw183_1), (zc HB hw183_2), (zc HB hw184_0), (zc HB hw184_1), (zc HB hw184_2), (zc HB hw188_0), (zc HB hw188_1), (zc HB hw188_2)⟩ (fun hHeld => ?_)
 clear hK K
 refine norm_ (a' := ?_) ?_ ?_
 rotate_left
 ·show Act.put _ (some 11) _ = _
  exact zap
 refine one_ (i := 13) (N := some 16) (zq 16 16383) rfl rfl (one_of HT_.out (by kernel_rfl)) (by decide) (fun K hK => ?_)
 refine Kd.R_append_rows_step k91 (w0 := w) w.heap.size (by rfl) (.tmp 11) (.tmp 15) 35 91 (.agg #[(.int .i8 0), (.int .i8 0), (.int .i8 0), (.int .i8 0), (.int .i8 0)]) 5 rfl Try.underlying35 info91 rfl (by decide) (by omega) v186 y185 ((rd_T37 l0 0).f2) _ _ _ (fun _ => True) (fun _ => False) rfl rfl ?aO ?aR (fun _ _ h => h) (fun _ h => h.elim) ?aF ?aB ?aS ?aL ?_
 (case aR => exact zcc HB HR188_2.out)
 (case aB => exact zbo)
 (case aF => exact (fun _ _ => trivial))
 (case aO => exact (ze HO187).out)
 (case aS => exact (zz HB))
 (case aL => have := LMc3.out; omega)
 intro v190 w8 ho hb hg hat
 rw [← Ny189.out] at ho
 have n_ : _ ∧ _ ∧ _ := ⟨Aside0.mk (blk_grown (g := gb182) (o := .cells #[.int .i8 0, .int .i8 0, .slice none 0 0] 37 (0, 0)) (zh BK182).out hg (Kd.R_ne HO187.out BK182.out (by decide))), Aside0.mk (hb), Aside0.mk (ho)⟩
 clear BK182 HB HO187
 obtain ⟨BK182, HB, HO191⟩ := n_
 clear ho hb hg hat
 obtain ⟨Ao9, co9, eo9⟩ := Kd.R_slice HO191.out
 (first | subst eo9 | (injection eo9 with f1_ f2_ f3_; have f4_ := f1_.symm; have f5_ := f3_.symm; clear f1_ f2_ f3_; subst f4_; subst f5_))
 refine hK.out _ _ ⟨(zc HB hw183_0), (zc HB hw183_1), (zc HB hw183_2), (zc HB hw184_0), (zc HB hw184_1), (zc HB hw184_2), (zc HB hw188_0), (zc HB hw188_1), (zc HB hw188_2)⟩ (fun hHeld => ?_)
 clear hK K
 refine norm_ (a' := ?_) ?_ ?_
 rotate_left
 ·show Act.put _ (some 16) _ = _
  exact zap
 refine zpu 14 (some 17) (zq 16 32767) HT_ ?_
 refine one_ (i := 15) (N := none) (zq 16 65535) rfl rfl (one_of HT_.out (by kernel_rfl)) (by decide) (fun K hK => ?_)
 have hs10 : w8.cell? ⟨gb182, 0, none⟩ = some (.int .i8 0) := (blk_cell BK182.out 0).trans rfl
 have hfs10 := blk_frozen BK182.out 0
 have hs11 : w8.cell? ⟨gb182, 1, none⟩ = some (.int .i8 0) := (blk_cell BK182.out 1).trans rfl
 have hfs11 := blk_frozen BK182.out 1
 have hs12 : w8.cell? ⟨gb182, 2, none⟩ = some (.slice none 0 0) := (blk_cell BK182.out 2).trans rfl
 have hfs12 := blk_frozen BK182.out 2
 refine skip_ (w1 := ?_) (by rfl) rfl ?_ ?_
 rotate_left
 ·go_simp
  rfl
 refine hK.out _ _ ⟨(zcf hw183_0 GW182 ((zcf hw183_0 GW182 ((zcf hw183_0 GW182 (hHeld.1)))))), (zcf hw183_1 GW182 ((zcf hw183_1 GW182 ((zcf hw183_1 GW182 (hHeld.2.1)))))), (zcf hw183_2 GW182 ((zcf hw183_2 GW182 ((zcf hw183_2 GW182 (hHeld.2.2.1)))))), (zcf hw184_0 GW182 ((zcf hw184_0 GW182 ((zcf hw184_0 GW182 (hHeld.2.2.2.1)))))), (zcf hw184_1 GW182 ((zcf hw184_1 GW182 ((zcf hw184_1 GW182 (hHeld.2.2.2.2.1)))))), (zcf hw184_2 GW182 ((zcf hw184_2 GW182 ((zcf hw184_2 GW182 (hHeld.2.2.2.2.2.1)))))), (zcf hw188_0 GW182 ((zcf hw188_0 GW182 ((zcf hw188_0 GW182 (hHeld.2.2.2.2.2.2.1)))))), (zcf hw188_1 GW182 ((zcf hw188_1 GW182 ((zcf hw188_1 GW182 (hHeld.2.2.2.2.2.2.2.1)))))), (zcf hw188_2 GW182 ((zcf hw188_2 GW182 ((zcf hw188_2 GW182 (hHeld.2.2.2.2.2.2.2.2))))))⟩ (fun hHeld => ?_)
 clear hK K
 refine done_ (done_of HT_.out (by kernel_rfl)) ?_
 try go_wp2
 refine bodyPost_ret (results_cell_row rfl _ _ gb182 37 #[.int .i8 ((rd_T37 l0 0).f0), .int .i8 ((rd_T37 l0 0).f1), .slice Ao9 y189.length co9] (0, 0) _ rfl (zp BK182) Try.underlying37 rfl (by kernel_rfl)) rfl ?_
 exact ⟨_, zv, Kd.R_mono (zs HO191 BK182).out (fun _ hk => trivial), zbo⟩
end Go.Proofs.Ytffnfpnajkgnaaa.PFnExactJoinBoards
