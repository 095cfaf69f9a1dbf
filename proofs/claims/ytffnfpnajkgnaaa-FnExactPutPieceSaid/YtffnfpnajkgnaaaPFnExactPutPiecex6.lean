-- WRITTEN by xprint.py, a program of this session's. Not trusted: Lean checks it.
-- packed by pack.py
import Derived.Test.YtffnfpnajkgnaaaPFnExactPutPiecex0
import Derived.Test.YtffnfpnajkgnaaaPFnExactPutPiecex4
import Derived.Test.YtffnfpnajkgnaaaPFnExactPutPiecex5
import Derived.Test.YtffnfpnajkgnaaaTFnExactPutPiecea
namespace Go.Proofs.Ytffnfpnajkgnaaa.PFnExactPutPiece
open Go.RowKit Go.Proofs.YtffnfpnajkgnaaaW.PrintWords Go.Proofs.YtffnfpnajkgnaaaW.PrintLast Go.Proofs.YtffnfpnajkgnaaaW.PrintMore Go.Proofs.YtffnfpnajkgnaaaX
attribute [local go_sem] max2_int min2_int max_two min_two max_three min_three max_four min_four   -- for this text's walks alone
set_option linter.unusedVariables false
set_option linter.unusedSimpArgs false

/-! ### spec_l01Copy: function 131 -/
def spec_l01Copy.f (l0 : List (S37)) : Option (Int × Int × (List (S91))) := if 0 < (l0.length : Int) then ((some (([] : List (S91)) : List (S91))).bind fun y185 => (if y185.length + ((rd_T37 l0 0).f2).length < 28147497671065 then (some ((rd_T37 l0 0).f0, (rd_T37 l0 0).f1, (y185 ++ ((rd_T37 l0 0).f2)))) else (none))) else (none)
def spec_l01Copy.T1 : Bool × List (List Nat × List Nat) := (true, [([], []), ([0], [0]), ([1], [1]), ([2], [2]), ([], []), ([4], [4]), ([5], [5]), ([6], [6]), ([], []), ([], []), ([9], [9]), ([10], [10]), ([11], [11]), ([8, 12], [8, 12]), ([3, 7, 13], [3, 7, 13]), ([14, 13, 0, 1, 2, 3, 4, 5, 6, 7, 8, 9, 10, 11, 12, 13, 14], [14])])
def spec_l01Copy.B1 : List Nat := [0, 1, 3, 7, 0, 16, 48, 112, 0, 0, 512, 1536, 3584, 7936, 16383, 32767]
theorem spec_l01Copy.tab1 : rtab .any (opsOf Try.f131 1) = spec_l01Copy.T1 := by kernel_rfl
theorem spec_l01Copy.bits1 : waitsOk spec_l01Copy.T1.2 spec_l01Copy.B1 = true := by kernel_rfl
set_option maxHeartbeats 8000000 in
set_option maxRecDepth 100000 in
theorem spec_l01Copy.calls (adp0 : Addr) (l0 : List (S37)) (r1 : Int) (r2 : Int) (r3 : List (S91)) (w : World) (hr0 : Kd.C k37 w (some adp0) l0.length l0) (h : spec_l01Copy.f l0 = some (r1, r2, r3)) :
    Calls Try.prog 131 #[.pointer (some adp0)] w fun e w' => ∃ v2_ : Value, e = .returned (.agg #[.int .i8 r1, .int .i8 r2, v2_]) ∧ Kd.R k91 91 w' w.heap.size (fun _ => True) v2_ r3 ∧ Below w.heap.size w w' := by
 have hu37 := Try.underlying37
 have HR0 := Aside0.mk hr0
 clear hr0
 have HB := Aside0.mk (Below.refl w.heap.size w)
 have H : (if 0 < (l0.length : Int) then ((some (([] : List (S91)) : List (S91))).bind fun y185 => (if y185.length + ((rd_T37 l0 0).f2).length < 28147497671065 then (some ((rd_T37 l0 0).f0, (rd_T37 l0 0).f1, (y185 ++ ((rd_T37 l0 0).f2)))) else (none))) else (none)) = some (r1, r2, r3) := h
 clear h
 by_cases c2 : 0 < (l0.length : Int)
 rotate_left
 ·rw [if_neg c2] at H
  exact absurd H (by simp)
 rw [if_pos c2] at H
 have c2b0 : decide (0 < (l0.length : Int)) = true := decide_eq_true c2
 have c2b1 : decide (0 < l0.length) = true := decide_eq_true (by omega)
 clear c2
 obtain ⟨y185, hy185⟩ : ∃ y_ : List (S91), y_ = (([] : List (S91))) := ⟨_, rfl⟩
 replace H : (if y185.length + ((rd_T37 l0 0).f2).length < 28147497671065 then (some ((rd_T37 l0 0).f0, (rd_T37 l0 0).f1, (y185 ++ ((rd_T37 l0 0).f2)))) else (none)) = some (r1, r2, r3) := by first | (rw [hy185]; with_reducible exact H) | (have H2_ := (Option.bind_some _ _).symm.trans H; rw [hy185]; with_reducible exact H2_) | (have H2_ := (Option.bind_some _ _).symm.trans H; with_reducible exact H2_) | with_reducible exact H | (rw [hy185]; exact H) | exact H
 have Ny185 := Aside0.mk hy185
 clear hy185
 by_cases c3 : y185.length + ((rd_T37 l0 0).f2).length < 28147497671065
 rotate_left
 ·rw [if_neg c3] at H
  exact absurd H (by simp)
 rw [if_pos c3] at H
 have LMc3 := Aside0.mk c3
 clear c3
 obtain ⟨y189, hy189⟩ : ∃ y_ : List (S91), y_ = (y185 ++ ((rd_T37 l0 0).f2)) := ⟨_, rfl⟩
 replace H : (some ((rd_T37 l0 0).f0, (rd_T37 l0 0).f1, y189)) = some (r1, r2, r3) := by first | (rw [hy189]; with_reducible exact H) | (have H2_ := (Option.bind_some _ _).symm.trans H; rw [hy189]; with_reducible exact H2_) | (have H2_ := (Option.bind_some _ _).symm.trans H; with_reducible exact H2_) | with_reducible exact H | (rw [hy189]; exact H) | exact H
 have Ny189 := Aside0.mk hy189
 clear hy189
 simp only [Option.some.injEq, Prod.mk.injEq] at H
 obtain ⟨rfl, rfl, rfl⟩ := H
 go_enter Try.func131, Try.ntmps131
 try go_wp2_with (first | ((with_reducible refine gate_dst (N := 2) rfl ?_); refine box_event ?hg (N := 2) ?hd (cs := #[.int .i8 0, .int .i8 0, .slice none 0 0]) (t := 37) ?hr ?_; (case hd => rfl); (case hg => rfl); (case hr => first | (go_simp; done) | (go_simp; rfl)); intro gb182 hg w4 hbox hb; have n_ : _ ∧ _ ∧ _ ∧ _ := ⟨zb HB hb, Aside0.mk (hbox), zg HB hg, zg HB hg⟩; clear HB; obtain ⟨HB, BK182, GW182, GE182⟩ := n_; clear hb hbox hg))
 have n0_ := Aside0.mk (blk_drew BK182.out)
 have n1_ := Aside0.mk (below_drew1 HB.out)
 clear BK182
 clear HB
 have BK182 := n0_
 have HB := n1_
 clear n0_ n1_
 have p183 : 0 ≤ (0 : Int) := (by omega)
 have q183 : 0 < (l0.length : Int) := of_decide_eq_true (by first | (with_reducible assumption) | assumption)
 obtain ⟨ad183, A183_2, c183_2, e183, hx183_0, hx183_1, hx183_2, hl183_2, hi183_2⟩ := at_T37 HR0.out 0 p183 q183
 have hw183_2 := hx183_2
 (try rw [show ((0 : Int)).toNat = 0 from rfl] at hw183_2)
 (try rw [show 0 * 3 = 0 from rfl] at hw183_2)
 (try rw [Addr.add_zero'] at hw183_2)
 have hw183_1 := hx183_1
 (try rw [show ((0 : Int)).toNat = 0 from rfl] at hw183_1)
 (try rw [show 0 * 3 = 0 from rfl] at hw183_1)
 (try rw [Addr.add_zero'] at hw183_1)
 have hw183_0 := hx183_0
 (try rw [show ((0 : Int)).toNat = 0 from rfl] at hw183_0)
 (try rw [show 0 * 3 = 0 from rfl] at hw183_0)
 (try rw [Addr.add_zero'] at hw183_0)
 obtain rfl : adp0 = ad183 := (by injection e183)
 have qi183 : (0 < l0.length) = True := eq_true (by omega)
 (try rw [show ((0 : Int)).toNat = 0 from rfl] at hx183_0)
 (try rw [show 0 * 3 = 0 from rfl] at hx183_0)
 (try rw [Addr.add_zero'] at hx183_0)
 (try rw [show ((0 : Int)).toNat = 0 from rfl] at hx183_1)
 (try rw [show 0 * 3 = 0 from rfl] at hx183_1)
 (try rw [Addr.add_zero'] at hx183_1)
 (try rw [show ((0 : Int)).toNat = 0 from rfl] at hx183_2)
 (try rw [show 0 * 3 = 0 from rfl] at hx183_2)
 (try rw [Addr.add_zero'] at hx183_2)
 replace hx183_0 := zc HB hx183_0
 replace hx183_1 := zc HB hx183_1
 replace hx183_2 := zc HB hx183_2
 have HR183_2 := Aside0.mk hi183_2
 have HC183_2 := Aside0.mk hl183_2
 clear hi183_2 hl183_2
 replace p183 := eq_true p183
 replace q183 := eq_true q183
 have p184 : 0 ≤ (0 : Int) := (by omega)
 have q184 : 0 < (l0.length : Int) := of_decide_eq_true (by first | (with_reducible assumption) | assumption)
 obtain ⟨ad184, A184_2, c184_2, e184, hx184_0, hx184_1, hx184_2, hl184_2, hi184_2⟩ := at_T37 HR0.out 0 p184 q184
 have hw184_2 := hx184_2
 (try rw [show ((0 : Int)).toNat = 0 from rfl] at hw184_2)
 (try rw [show 0 * 3 = 0 from rfl] at hw184_2)
 (try rw [Addr.add_zero'] at hw184_2)
 have hw184_1 := hx184_1
 (try rw [show ((0 : Int)).toNat = 0 from rfl] at hw184_1)
 (try rw [show 0 * 3 = 0 from rfl] at hw184_1)
 (try rw [Addr.add_zero'] at hw184_1)
 have hw184_0 := hx184_0
 (try rw [show ((0 : Int)).toNat = 0 from rfl] at hw184_0)
 (try rw [show 0 * 3 = 0 from rfl] at hw184_0)
 (try rw [Addr.add_zero'] at hw184_0)
 obtain rfl : adp0 = ad184 := (by injection e184)
 have qi184 : (0 < l0.length) = True := eq_true (by omega)
 (try rw [show ((0 : Int)).toNat = 0 from rfl] at hx184_0)
 (try rw [show 0 * 3 = 0 from rfl] at hx184_0)
 (try rw [Addr.add_zero'] at hx184_0)
 (try rw [show ((0 : Int)).toNat = 0 from rfl] at hx184_1)
 (try rw [show 0 * 3 = 0 from rfl] at hx184_1)
 (try rw [Addr.add_zero'] at hx184_1)
 (try rw [show ((0 : Int)).toNat = 0 from rfl] at hx184_2)
 (try rw [show 0 * 3 = 0 from rfl] at hx184_2)
 (try rw [Addr.add_zero'] at hx184_2)
 replace hx184_0 := zc HB hx184_0
 replace hx184_1 := zc HB hx184_1
 replace hx184_2 := zc HB hx184_2
 have HR184_2 := Aside0.mk hi184_2
 have HC184_2 := Aside0.mk hl184_2
 clear hi184_2 hl184_2
 replace p184 := eq_true p184
 replace q184 := eq_true q184
 have ea_ := Option.some.inj (hx183_2.symm.trans hx184_2)
 injection ea_ with ea_ en_ ec_
 subst ea_
 subst ec_
 clear en_
 have p188 : 0 ≤ (0 : Int) := (by omega)
 have q188 : 0 < (l0.length : Int) := of_decide_eq_true (by first | (with_reducible assumption) | assumption)
 obtain ⟨ad188, A188_2, c188_2, e188, hx188_0, hx188_1, hx188_2, hl188_2, hi188_2⟩ := at_T37 HR0.out 0 p188 q188
 have hw188_2 := hx188_2
 (try rw [show ((0 : Int)).toNat = 0 from rfl] at hw188_2)
 (try rw [show 0 * 3 = 0 from rfl] at hw188_2)
 (try rw [Addr.add_zero'] at hw188_2)
 have hw188_1 := hx188_1
 (try rw [show ((0 : Int)).toNat = 0 from rfl] at hw188_1)
 (try rw [show 0 * 3 = 0 from rfl] at hw188_1)
 (try rw [Addr.add_zero'] at hw188_1)
 have hw188_0 := hx188_0
 (try rw [show ((0 : Int)).toNat = 0 from rfl] at hw188_0)
 (try rw [show 0 * 3 = 0 from rfl] at hw188_0)
 (try rw [Addr.add_zero'] at hw188_0)
 obtain rfl : adp0 = ad188 := (by injection e188)
 have qi188 : (0 < l0.length) = True := eq_true (by omega)
 (try rw [show ((0 : Int)).toNat = 0 from rfl] at hx188_0)
 (try rw [show 0 * 3 = 0 from rfl] at hx188_0)
 (try rw [Addr.add_zero'] at hx188_0)
 (try rw [show ((0 : Int)).toNat = 0 from rfl] at hx188_1)
 (try rw [show 0 * 3 = 0 from rfl] at hx188_1)
 (try rw [Addr.add_zero'] at hx188_1)
 (try rw [show ((0 : Int)).toNat = 0 from rfl] at hx188_2)
 (try rw [show 0 * 3 = 0 from rfl] at hx188_2)
 (try rw [Addr.add_zero'] at hx188_2)
 replace hx188_0 := zc HB hx188_0
 replace hx188_1 := zc HB hx188_1
 replace hx188_2 := zc HB hx188_2
 have HR188_2 := Aside0.mk hi188_2
 have HC188_2 := Aside0.mk hl188_2
 clear hi188_2 hl188_2
 replace p188 := eq_true p188
 replace q188 := eq_true q188
 have ea_ := Option.some.inj (hx183_2.symm.trans hx188_2)
 injection ea_ with ea_ en_ ec_
 subst ea_
 subst ec_
 clear en_
 refine start_ (n := 16) (S := fun w' => w'.cell? adp0 = some (.int .i8 ((rd_T37 l0 0).f0)) ∧ w'.cell? ⟨adp0.block, adp0.off + 1, none⟩ = some (.int .i8 ((rd_T37 l0 0).f1)) ∧ w'.cell? ⟨adp0.block, adp0.off + 2, none⟩ = some (.slice A183_2 ((rd_T37 l0 0).f2).length c183_2) ∧ w'.cell? adp0 = some (.int .i8 ((rd_T37 l0 0).f0)) ∧ w'.cell? ⟨adp0.block, adp0.off + 1, none⟩ = some (.int .i8 ((rd_T37 l0 0).f1)) ∧ w'.cell? ⟨adp0.block, adp0.off + 2, none⟩ = some (.slice A183_2 ((rd_T37 l0 0).f2).length c183_2) ∧ w'.cell? adp0 = some (.int .i8 ((rd_T37 l0 0).f0)) ∧ w'.cell? ⟨adp0.block, adp0.off + 1, none⟩ = some (.int .i8 ((rd_T37 l0 0).f1)) ∧ w'.cell? ⟨adp0.block, adp0.off + 2, none⟩ = some (.slice A183_2 ((rd_T37 l0 0).f2).length c183_2)) (ds := []) (zq 16 0) (by kernel_rfl) rfl rfl ⟨(zc HB hw183_0), (zc HB hw183_1), (zc HB hw183_2), (zc HB hw184_0), (zc HB hw184_1), (zc HB hw184_2), (zc HB hw188_0), (zc HB hw188_1), (zc HB hw188_2)⟩ (fun hHeld => ?_); refine with_tabW spec_l01Copy.tab1 spec_l01Copy.bits1 (fun HT_ HW_ => ?_)
 generalize w4.drew = w5 at BK182 HB HR183_2 HR184_2 HR188_2 hx183_0 hx183_1 hx183_2 hx184_0 hx184_1 hx184_2 hx188_0 hx188_1 hx188_2 hHeld ⊢
 refine zpu 0 (some 3) (zq 16 1) HT_ ?_
 refine zpu 1 (some 4) (zq 16 3) HT_ ?_
 refine zpu 2 (some 5) (zq 16 7) HT_ ?_
 refine zpu 4 (some 7) (zq 16 23) HT_ ?_
 refine zpu 5 (some 8) (zq 16 55) HT_ ?_
 refine zpu 6 (some 9) (zq 16 119) HT_ ?_
 refine zpu 9 (some 12) (zq 16 631) HT_ ?_
 refine zpu 10 (some 13) (zq 16 1655) HT_ ?_
 refine zpu 11 (some 14) (zq 16 3703) HT_ ?_
 refine ztk 3 (some 6) (zq 16 3711) HT_ HW_ rfl hHeld (Or.inl ⟨by rfl, by (rintro w' ⟨s0, s1, s2, s3, s4, s5, s6, s7, s8⟩; go_simp; with_reducible rfl)⟩) ?_
 refine ztk 7 (some 10) (zq 16 3839) HT_ HW_ rfl hHeld (Or.inl ⟨by rfl, by (rintro w' ⟨s0, s1, s2, s3, s4, s5, s6, s7, s8⟩; go_simp; with_reducible rfl)⟩) ?_
 refine ztk 12 (some 15) (zq 16 7935) HT_ HW_ rfl hHeld (Or.inl ⟨by rfl, by (rintro w' ⟨s0, s1, s2, s3, s4, s5, s6, s7, s8⟩; go_simp; with_reducible rfl)⟩) ?_
 refine one_ (i := 8) (N := some 11) (zq 16 8191) rfl rfl (one_of HT_.out (by kernel_rfl)) (by decide) (fun K hK => ?_)
 refine Kd.R_lit_step k91 _ 91 ?hg (N := 11) ?hd (xs := ([] : List (S91))) (inner := []) (ok := fun _ => True) (okp := fun _ => True) ?hr ?hp (fun _ hk => hk) trivial (Below.refl _ _) (Nat.le_refl _) (by simp) ?_; (case hd => rfl); (case hg => rfl); (case hr => first | (go_simp; done) | (go_simp; rfl)); (case hp => exact (Reps.none _ _))
 intro v186 w6 ho7 hb hg_ hnew_
 clear hg_ hnew_
 (first | rw [← Ny185.out] at ho7 | (simp only [Int.reduceToNat] at ho7; rw [← Ny185.out] at ho7))
 have n0_ := Aside0.mk (Kd.R_lower ho7 (zz HB))
 have n1_ := zk BK182 hb
 have n2_ := zbs hb
 clear BK182
 clear HB
 have HO187 := n0_
 have BK182 := n1_
 have HB := n2_
 clear n0_ n1_ n2_
 clear hb ho7
 refine hK.out _ _ ⟨(zc HB hw183_0), (zc HB hw183_1), (zc HB hw183_2), (zc HB hw184_0), (zc HB hw184_1), (zc HB hw184_2), (zc HB hw188_0), (zc HB hw188_1), (zc HB hw188_2)⟩ (fun hHeld => ?_)
 clear hK K
 refine norm_ (a' := ?_) ?_ ?_
 rotate_left
 ·show Act.put _ (some 11) _ = _
  simp only [Act.put, List.setIfInBounds_toArray, List.set_cons_zero, List.set_cons_succ, i64_w, i32_w]
  rfl
 refine one_ (i := 13) (N := some 16) (zq 16 16383) rfl rfl (one_of HT_.out (by kernel_rfl)) (by decide) (fun K hK => ?_)
 refine Kd.R_append_rows_step k91 (w0 := w) w.heap.size (by rfl) (.tmp 11) (.tmp 15) 35 91 (.agg #[(.int .i8 0), (.int .i8 0), (.int .i8 0), (.int .i8 0), (.int .i8 0)]) 5 rfl Try.underlying35 info91 rfl (by decide) (by omega) v186 y185 ((rd_T37 l0 0).f2) _ _ _ (fun _ => True) (fun _ => False) rfl rfl ?aO ?aR (fun _ _ h => h) (fun _ h => h.elim) ?aF ?aB ?aS ?aL ?_
 (case aR => exact zcc HB HR188_2.out)
 (case aB => exact (by repeat (first | (with_reducible first | exact HB.out | apply below_alloc | apply pw_below_drewN | apply below_drew1 | refine below_set ?_ GE182.out) | exact HB.out)))
 (case aF => exact (fun _ _ => trivial))
 (case aO => exact (ze HO187).out)
 (case aS => exact (zz HB))
 (case aL => have := LMc3.out; omega)
 intro v190 w8 ho hb hg hat
 rw [← Ny189.out] at ho
 have n0_ := Aside0.mk (blk_grown (g := gb182) (o := .cells #[.int .i8 0, .int .i8 0, .slice none 0 0] 37 (0, 0)) (zh BK182).out hg (Kd.R_ne HO187.out BK182.out (by decide)))
 have n1_ := Aside0.mk (hb)
 have n2_ := Aside0.mk (ho)
 clear BK182
 clear HB
 clear HO187
 have BK182 := n0_
 have HB := n1_
 have HO191 := n2_
 clear n0_ n1_ n2_
 clear ho hb hg hat
 obtain ⟨Ao9, co9, eo9⟩ := Kd.R_slice HO191.out
 (first | subst eo9 | (injection eo9 with f1_ f2_ f3_; have f4_ := f1_.symm; have f5_ := f3_.symm; clear f1_ f2_ f3_; subst f4_; subst f5_))
 refine hK.out _ _ ⟨(zc HB hw183_0), (zc HB hw183_1), (zc HB hw183_2), (zc HB hw184_0), (zc HB hw184_1), (zc HB hw184_2), (zc HB hw188_0), (zc HB hw188_1), (zc HB hw188_2)⟩ (fun hHeld => ?_)
 clear hK K
 refine norm_ (a' := ?_) ?_ ?_
 rotate_left
 ·show Act.put _ (some 16) _ = _
  simp only [Act.put, List.setIfInBounds_toArray, List.set_cons_zero, List.set_cons_succ, i64_w, i32_w]
  rfl
 refine zpu 14 (some 17) (zq 16 32767) HT_ ?_
 refine one_ (i := 15) (N := none) (zq 16 65535) rfl rfl (one_of HT_.out (by kernel_rfl)) (by decide) (fun K hK => ?_)
 have hs10 : w8.cell? ⟨gb182, 0, none⟩ = some (.int .i8 0) := (blk_cell BK182.out 0).trans rfl
 have hfs10 := blk_frozen BK182.out 0
 have hs11 : w8.cell? ⟨gb182, 1, none⟩ = some (.int .i8 0) := (blk_cell BK182.out 1).trans rfl
 have hfs11 := blk_frozen BK182.out 1
 have hs12 : w8.cell? ⟨gb182, 2, none⟩ = some (.slice none 0 0) := (blk_cell BK182.out 2).trans rfl
 have hfs12 := blk_frozen BK182.out 2
 refine skip_ (w1 := ?_) (by rfl) rfl ?_ ?_
 rotate_left
 ·go_simp
  rfl
 refine hK.out _ _ ⟨((cell_far (p := ⟨gb182, _, none⟩) (by first | exact Nat.ne_of_lt (Nat.lt_of_lt_of_le (by have := World.block_lt_of_cell? _ _ hw183_0; first | rwa [add_block] at this | exact this) GW182.out) | (rw [add_block]; exact Nat.ne_of_lt (Nat.lt_of_lt_of_le (by have := World.block_lt_of_cell? _ _ hw183_0; first | rwa [add_block] at this | exact this) GW182.out)) | (show (Addr.add _ _).block ≠ _; rw [add_block]; exact Nat.ne_of_lt (Nat.lt_of_lt_of_le (by have := World.block_lt_of_cell? _ _ hw183_0; first | rwa [add_block] at this | exact this) GW182.out)) | (dsimp only; exact Nat.ne_of_lt (Nat.lt_of_lt_of_le (by have := World.block_lt_of_cell? _ _ hw183_0; first | rwa [add_block] at this | exact this) GW182.out))) _).trans (((cell_far (p := ⟨gb182, _, none⟩) (by first | exact Nat.ne_of_lt (Nat.lt_of_lt_of_le (by have := World.block_lt_of_cell? _ _ hw183_0; first | rwa [add_block] at this | exact this) GW182.out) | (rw [add_block]; exact Nat.ne_of_lt (Nat.lt_of_lt_of_le (by have := World.block_lt_of_cell? _ _ hw183_0; first | rwa [add_block] at this | exact this) GW182.out)) | (show (Addr.add _ _).block ≠ _; rw [add_block]; exact Nat.ne_of_lt (Nat.lt_of_lt_of_le (by have := World.block_lt_of_cell? _ _ hw183_0; first | rwa [add_block] at this | exact this) GW182.out)) | (dsimp only; exact Nat.ne_of_lt (Nat.lt_of_lt_of_le (by have := World.block_lt_of_cell? _ _ hw183_0; first | rwa [add_block] at this | exact this) GW182.out))) _).trans (((cell_far (p := ⟨gb182, _, none⟩) (by first | exact Nat.ne_of_lt (Nat.lt_of_lt_of_le (by have := World.block_lt_of_cell? _ _ hw183_0; first | rwa [add_block] at this | exact this) GW182.out) | (rw [add_block]; exact Nat.ne_of_lt (Nat.lt_of_lt_of_le (by have := World.block_lt_of_cell? _ _ hw183_0; first | rwa [add_block] at this | exact this) GW182.out)) | (show (Addr.add _ _).block ≠ _; rw [add_block]; exact Nat.ne_of_lt (Nat.lt_of_lt_of_le (by have := World.block_lt_of_cell? _ _ hw183_0; first | rwa [add_block] at this | exact this) GW182.out)) | (dsimp only; exact Nat.ne_of_lt (Nat.lt_of_lt_of_le (by have := World.block_lt_of_cell? _ _ hw183_0; first | rwa [add_block] at this | exact this) GW182.out))) _).trans (hHeld.1)))))), ((cell_far (p := ⟨gb182, _, none⟩) (by first | exact Nat.ne_of_lt (Nat.lt_of_lt_of_le (by have := World.block_lt_of_cell? _ _ hw183_1; first | rwa [add_block] at this | exact this) GW182.out) | (rw [add_block]; exact Nat.ne_of_lt (Nat.lt_of_lt_of_le (by have := World.block_lt_of_cell? _ _ hw183_1; first | rwa [add_block] at this | exact this) GW182.out)) | (show (Addr.add _ _).block ≠ _; rw [add_block]; exact Nat.ne_of_lt (Nat.lt_of_lt_of_le (by have := World.block_lt_of_cell? _ _ hw183_1; first | rwa [add_block] at this | exact this) GW182.out)) | (dsimp only; exact Nat.ne_of_lt (Nat.lt_of_lt_of_le (by have := World.block_lt_of_cell? _ _ hw183_1; first | rwa [add_block] at this | exact this) GW182.out))) _).trans (((cell_far (p := ⟨gb182, _, none⟩) (by first | exact Nat.ne_of_lt (Nat.lt_of_lt_of_le (by have := World.block_lt_of_cell? _ _ hw183_1; first | rwa [add_block] at this | exact this) GW182.out) | (rw [add_block]; exact Nat.ne_of_lt (Nat.lt_of_lt_of_le (by have := World.block_lt_of_cell? _ _ hw183_1; first | rwa [add_block] at this | exact this) GW182.out)) | (show (Addr.add _ _).block ≠ _; rw [add_block]; exact Nat.ne_of_lt (Nat.lt_of_lt_of_le (by have := World.block_lt_of_cell? _ _ hw183_1; first | rwa [add_block] at this | exact this) GW182.out)) | (dsimp only; exact Nat.ne_of_lt (Nat.lt_of_lt_of_le (by have := World.block_lt_of_cell? _ _ hw183_1; first | rwa [add_block] at this | exact this) GW182.out))) _).trans (((cell_far (p := ⟨gb182, _, none⟩) (by first | exact Nat.ne_of_lt (Nat.lt_of_lt_of_le (by have := World.block_lt_of_cell? _ _ hw183_1; first | rwa [add_block] at this | exact this) GW182.out) | (rw [add_block]; exact Nat.ne_of_lt (Nat.lt_of_lt_of_le (by have := World.block_lt_of_cell? _ _ hw183_1; first | rwa [add_block] at this | exact this) GW182.out)) | (show (Addr.add _ _).block ≠ _; rw [add_block]; exact Nat.ne_of_lt (Nat.lt_of_lt_of_le (by have := World.block_lt_of_cell? _ _ hw183_1; first | rwa [add_block] at this | exact this) GW182.out)) | (dsimp only; exact Nat.ne_of_lt (Nat.lt_of_lt_of_le (by have := World.block_lt_of_cell? _ _ hw183_1; first | rwa [add_block] at this | exact this) GW182.out))) _).trans (hHeld.2.1)))))), ((cell_far (p := ⟨gb182, _, none⟩) (by first | exact Nat.ne_of_lt (Nat.lt_of_lt_of_le (by have := World.block_lt_of_cell? _ _ hw183_2; first | rwa [add_block] at this | exact this) GW182.out) | (rw [add_block]; exact Nat.ne_of_lt (Nat.lt_of_lt_of_le (by have := World.block_lt_of_cell? _ _ hw183_2; first | rwa [add_block] at this | exact this) GW182.out)) | (show (Addr.add _ _).block ≠ _; rw [add_block]; exact Nat.ne_of_lt (Nat.lt_of_lt_of_le (by have := World.block_lt_of_cell? _ _ hw183_2; first | rwa [add_block] at this | exact this) GW182.out)) | (dsimp only; exact Nat.ne_of_lt (Nat.lt_of_lt_of_le (by have := World.block_lt_of_cell? _ _ hw183_2; first | rwa [add_block] at this | exact this) GW182.out))) _).trans (((cell_far (p := ⟨gb182, _, none⟩) (by first | exact Nat.ne_of_lt (Nat.lt_of_lt_of_le (by have := World.block_lt_of_cell? _ _ hw183_2; first | rwa [add_block] at this | exact this) GW182.out) | (rw [add_block]; exact Nat.ne_of_lt (Nat.lt_of_lt_of_le (by have := World.block_lt_of_cell? _ _ hw183_2; first | rwa [add_block] at this | exact this) GW182.out)) | (show (Addr.add _ _).block ≠ _; rw [add_block]; exact Nat.ne_of_lt (Nat.lt_of_lt_of_le (by have := World.block_lt_of_cell? _ _ hw183_2; first | rwa [add_block] at this | exact this) GW182.out)) | (dsimp only; exact Nat.ne_of_lt (Nat.lt_of_lt_of_le (by have := World.block_lt_of_cell? _ _ hw183_2; first | rwa [add_block] at this | exact this) GW182.out))) _).trans (((cell_far (p := ⟨gb182, _, none⟩) (by first | exact Nat.ne_of_lt (Nat.lt_of_lt_of_le (by have := World.block_lt_of_cell? _ _ hw183_2; first | rwa [add_block] at this | exact this) GW182.out) | (rw [add_block]; exact Nat.ne_of_lt (Nat.lt_of_lt_of_le (by have := World.block_lt_of_cell? _ _ hw183_2; first | rwa [add_block] at this | exact this) GW182.out)) | (show (Addr.add _ _).block ≠ _; rw [add_block]; exact Nat.ne_of_lt (Nat.lt_of_lt_of_le (by have := World.block_lt_of_cell? _ _ hw183_2; first | rwa [add_block] at this | exact this) GW182.out)) | (dsimp only; exact Nat.ne_of_lt (Nat.lt_of_lt_of_le (by have := World.block_lt_of_cell? _ _ hw183_2; first | rwa [add_block] at this | exact this) GW182.out))) _).trans (hHeld.2.2.1)))))), ((cell_far (p := ⟨gb182, _, none⟩) (by first | exact Nat.ne_of_lt (Nat.lt_of_lt_of_le (by have := World.block_lt_of_cell? _ _ hw184_0; first | rwa [add_block] at this | exact this) GW182.out) | (rw [add_block]; exact Nat.ne_of_lt (Nat.lt_of_lt_of_le (by have := World.block_lt_of_cell? _ _ hw184_0; first | rwa [add_block] at this | exact this) GW182.out)) | (show (Addr.add _ _).block ≠ _; rw [add_block]; exact Nat.ne_of_lt (Nat.lt_of_lt_of_le (by have := World.block_lt_of_cell? _ _ hw184_0; first | rwa [add_block] at this | exact this) GW182.out)) | (dsimp only; exact Nat.ne_of_lt (Nat.lt_of_lt_of_le (by have := World.block_lt_of_cell? _ _ hw184_0; first | rwa [add_block] at this | exact this) GW182.out))) _).trans (((cell_far (p := ⟨gb182, _, none⟩) (by first | exact Nat.ne_of_lt (Nat.lt_of_lt_of_le (by have := World.block_lt_of_cell? _ _ hw184_0; first | rwa [add_block] at this | exact this) GW182.out) | (rw [add_block]; exact Nat.ne_of_lt (Nat.lt_of_lt_of_le (by have := World.block_lt_of_cell? _ _ hw184_0; first | rwa [add_block] at this | exact this) GW182.out)) | (show (Addr.add _ _).block ≠ _; rw [add_block]; exact Nat.ne_of_lt (Nat.lt_of_lt_of_le (by have := World.block_lt_of_cell? _ _ hw184_0; first | rwa [add_block] at this | exact this) GW182.out)) | (dsimp only; exact Nat.ne_of_lt (Nat.lt_of_lt_of_le (by have := World.block_lt_of_cell? _ _ hw184_0; first | rwa [add_block] at this | exact this) GW182.out))) _).trans (((cell_far (p := ⟨gb182, _, none⟩) (by first | exact Nat.ne_of_lt (Nat.lt_of_lt_of_le (by have := World.block_lt_of_cell? _ _ hw184_0; first | rwa [add_block] at this | exact this) GW182.out) | (rw [add_block]; exact Nat.ne_of_lt (Nat.lt_of_lt_of_le (by have := World.block_lt_of_cell? _ _ hw184_0; first | rwa [add_block] at this | exact this) GW182.out)) | (show (Addr.add _ _).block ≠ _; rw [add_block]; exact Nat.ne_of_lt (Nat.lt_of_lt_of_le (by have := World.block_lt_of_cell? _ _ hw184_0; first | rwa [add_block] at this | exact this) GW182.out)) | (dsimp only; exact Nat.ne_of_lt (Nat.lt_of_lt_of_le (by have := World.block_lt_of_cell? _ _ hw184_0; first | rwa [add_block] at this | exact this) GW182.out))) _).trans (hHeld.2.2.2.1)))))), ((cell_far (p := ⟨gb182, _, none⟩) (by first | exact Nat.ne_of_lt (Nat.lt_of_lt_of_le (by have := World.block_lt_of_cell? _ _ hw184_1; first | rwa [add_block] at this | exact this) GW182.out) | (rw [add_block]; exact Nat.ne_of_lt (Nat.lt_of_lt_of_le (by have := World.block_lt_of_cell? _ _ hw184_1; first | rwa [add_block] at this | exact this) GW182.out)) | (show (Addr.add _ _).block ≠ _; rw [add_block]; exact Nat.ne_of_lt (Nat.lt_of_lt_of_le (by have := World.block_lt_of_cell? _ _ hw184_1; first | rwa [add_block] at this | exact this) GW182.out)) | (dsimp only; exact Nat.ne_of_lt (Nat.lt_of_lt_of_le (by have := World.block_lt_of_cell? _ _ hw184_1; first | rwa [add_block] at this | exact this) GW182.out))) _).trans (((cell_far (p := ⟨gb182, _, none⟩) (by first | exact Nat.ne_of_lt (Nat.lt_of_lt_of_le (by have := World.block_lt_of_cell? _ _ hw184_1; first | rwa [add_block] at this | exact this) GW182.out) | (rw [add_block]; exact Nat.ne_of_lt (Nat.lt_of_lt_of_le (by have := World.block_lt_of_cell? _ _ hw184_1; first | rwa [add_block] at this | exact this) GW182.out)) | (show (Addr.add _ _).block ≠ _; rw [add_block]; exact Nat.ne_of_lt (Nat.lt_of_lt_of_le (by have := World.block_lt_of_cell? _ _ hw184_1; first | rwa [add_block] at this | exact this) GW182.out)) | (dsimp only; exact Nat.ne_of_lt (Nat.lt_of_lt_of_le (by have := World.block_lt_of_cell? _ _ hw184_1; first | rwa [add_block] at this | exact this) GW182.out))) _).trans (((cell_far (p := ⟨gb182, _, none⟩) (by first | exact Nat.ne_of_lt (Nat.lt_of_lt_of_le (by have := World.block_lt_of_cell? _ _ hw184_1; first | rwa [add_block] at this | exact this) GW182.out) | (rw [add_block]; exact Nat.ne_of_lt (Nat.lt_of_lt_of_le (by have := World.block_lt_of_cell? _ _ hw184_1; first | rwa [add_block] at this | exact this) GW182.out)) | (show (Addr.add _ _).block ≠ _; rw [add_block]; exact Nat.ne_of_lt (Nat.lt_of_lt_of_le (by have := World.block_lt_of_cell? _ _ hw184_1; first | rwa [add_block] at this | exact this) GW182.out)) | (dsimp only; exact Nat.ne_of_lt (Nat.lt_of_lt_of_le (by have := World.block_lt_of_cell? _ _ hw184_1; first | rwa [add_block] at this | exact this) GW182.out))) _).trans (hHeld.2.2.2.2.1)))))), ((cell_far (p := ⟨gb182, _, none⟩) (by first | exact Nat.ne_of_lt (Nat.lt_of_lt_of_le (by have := World.block_lt_of_cell? _ _ hw184_2; first | rwa [add_block] at this | exact this) GW182.out) | (rw [add_block]; exact Nat.ne_of_lt (Nat.lt_of_lt_of_le (by have := World.block_lt_of_cell? _ _ hw184_2; first | rwa [add_block] at this | exact this) GW182.out)) | (show (Addr.add _ _).block ≠ _; rw [add_block]; exact Nat.ne_of_lt (Nat.lt_of_lt_of_le (by have := World.block_lt_of_cell? _ _ hw184_2; first | rwa [add_block] at this | exact this) GW182.out)) | (dsimp only; exact Nat.ne_of_lt (Nat.lt_of_lt_of_le (by have := World.block_lt_of_cell? _ _ hw184_2; first | rwa [add_block] at this | exact this) GW182.out))) _).trans (((cell_far (p := ⟨gb182, _, none⟩) (by first | exact Nat.ne_of_lt (Nat.lt_of_lt_of_le (by have := World.block_lt_of_cell? _ _ hw184_2; first | rwa [add_block] at this | exact this) GW182.out) | (rw [add_block]; exact Nat.ne_of_lt (Nat.lt_of_lt_of_le (by have := World.block_lt_of_cell? _ _ hw184_2; first | rwa [add_block] at this | exact this) GW182.out)) | (show (Addr.add _ _).block ≠ _; rw [add_block]; exact Nat.ne_of_lt (Nat.lt_of_lt_of_le (by have := World.block_lt_of_cell? _ _ hw184_2; first | rwa [add_block] at this | exact this) GW182.out)) | (dsimp only; exact Nat.ne_of_lt (Nat.lt_of_lt_of_le (by have := World.block_lt_of_cell? _ _ hw184_2; first | rwa [add_block] at this | exact this) GW182.out))) _).trans (((cell_far (p := ⟨gb182, _, none⟩) (by first | exact Nat.ne_of_lt (Nat.lt_of_lt_of_le (by have := World.block_lt_of_cell? _ _ hw184_2; first | rwa [add_block] at this | exact this) GW182.out) | (rw [add_block]; exact Nat.ne_of_lt (Nat.lt_of_lt_of_le (by have := World.block_lt_of_cell? _ _ hw184_2; first | rwa [add_block] at this | exact this) GW182.out)) | (show (Addr.add _ _).block ≠ _; rw [add_block]; exact Nat.ne_of_lt (Nat.lt_of_lt_of_le (by have := World.block_lt_of_cell? _ _ hw184_2; first | rwa [add_block] at this | exact this) GW182.out)) | (dsimp only; exact Nat.ne_of_lt (Nat.lt_of_lt_of_le (by have := World.block_lt_of_cell? _ _ hw184_2; first | rwa [add_block] at this | exact this) GW182.out))) _).trans (hHeld.2.2.2.2.2.1)))))), ((cell_far (p := ⟨gb182, _, none⟩) (by first | exact Nat.ne_of_lt (Nat.lt_of_lt_of_le (by have := World.block_lt_of_cell? _ _ hw188_0; first | rwa [add_block] at this | exact this) GW182.out) | (rw [add_block]; exact Nat.ne_of_lt (Nat.lt_of_lt_of_le (by have := World.block_lt_of_cell? _ _ hw188_0; first | rwa [add_block] at this | exact this) GW182.out)) | (show (Addr.add _ _).block ≠ _; rw [add_block]; exact Nat.ne_of_lt (Nat.lt_of_lt_of_le (by have := World.block_lt_of_cell? _ _ hw188_0; first | rwa [add_block] at this | exact this) GW182.out)) | (dsimp only; exact Nat.ne_of_lt (Nat.lt_of_lt_of_le (by have := World.block_lt_of_cell? _ _ hw188_0; first | rwa [add_block] at this | exact this) GW182.out))) _).trans (((cell_far (p := ⟨gb182, _, none⟩) (by first | exact Nat.ne_of_lt (Nat.lt_of_lt_of_le (by have := World.block_lt_of_cell? _ _ hw188_0; first | rwa [add_block] at this | exact this) GW182.out) | (rw [add_block]; exact Nat.ne_of_lt (Nat.lt_of_lt_of_le (by have := World.block_lt_of_cell? _ _ hw188_0; first | rwa [add_block] at this | exact this) GW182.out)) | (show (Addr.add _ _).block ≠ _; rw [add_block]; exact Nat.ne_of_lt (Nat.lt_of_lt_of_le (by have := World.block_lt_of_cell? _ _ hw188_0; first | rwa [add_block] at this | exact this) GW182.out)) | (dsimp only; exact Nat.ne_of_lt (Nat.lt_of_lt_of_le (by have := World.block_lt_of_cell? _ _ hw188_0; first | rwa [add_block] at this | exact this) GW182.out))) _).trans (((cell_far (p := ⟨gb182, _, none⟩) (by first | exact Nat.ne_of_lt (Nat.lt_of_lt_of_le (by have := World.block_lt_of_cell? _ _ hw188_0; first | rwa [add_block] at this | exact this) GW182.out) | (rw [add_block]; exact Nat.ne_of_lt (Nat.lt_of_lt_of_le (by have := World.block_lt_of_cell? _ _ hw188_0; first | rwa [add_block] at this | exact this) GW182.out)) | (show (Addr.add _ _).block ≠ _; rw [add_block]; exact Nat.ne_of_lt (Nat.lt_of_lt_of_le (by have := World.block_lt_of_cell? _ _ hw188_0; first | rwa [add_block] at this | exact this) GW182.out)) | (dsimp only; exact Nat.ne_of_lt (Nat.lt_of_lt_of_le (by have := World.block_lt_of_cell? _ _ hw188_0; first | rwa [add_block] at this | exact this) GW182.out))) _).trans (hHeld.2.2.2.2.2.2.1)))))), ((cell_far (p := ⟨gb182, _, none⟩) (by first | exact Nat.ne_of_lt (Nat.lt_of_lt_of_le (by have := World.block_lt_of_cell? _ _ hw188_1; first | rwa [add_block] at this | exact this) GW182.out) | (rw [add_block]; exact Nat.ne_of_lt (Nat.lt_of_lt_of_le (by have := World.block_lt_of_cell? _ _ hw188_1; first | rwa [add_block] at this | exact this) GW182.out)) | (show (Addr.add _ _).block ≠ _; rw [add_block]; exact Nat.ne_of_lt (Nat.lt_of_lt_of_le (by have := World.block_lt_of_cell? _ _ hw188_1; first | rwa [add_block] at this | exact this) GW182.out)) | (dsimp only; exact Nat.ne_of_lt (Nat.lt_of_lt_of_le (by have := World.block_lt_of_cell? _ _ hw188_1; first | rwa [add_block] at this | exact this) GW182.out))) _).trans (((cell_far (p := ⟨gb182, _, none⟩) (by first | exact Nat.ne_of_lt (Nat.lt_of_lt_of_le (by have := World.block_lt_of_cell? _ _ hw188_1; first | rwa [add_block] at this | exact this) GW182.out) | (rw [add_block]; exact Nat.ne_of_lt (Nat.lt_of_lt_of_le (by have := World.block_lt_of_cell? _ _ hw188_1; first | rwa [add_block] at this | exact this) GW182.out)) | (show (Addr.add _ _).block ≠ _; rw [add_block]; exact Nat.ne_of_lt (Nat.lt_of_lt_of_le (by have := World.block_lt_of_cell? _ _ hw188_1; first | rwa [add_block] at this | exact this) GW182.out)) | (dsimp only; exact Nat.ne_of_lt (Nat.lt_of_lt_of_le (by have := World.block_lt_of_cell? _ _ hw188_1; first | rwa [add_block] at this | exact this) GW182.out))) _).trans (((cell_far (p := ⟨gb182, _, none⟩) (by first | exact Nat.ne_of_lt (Nat.lt_of_lt_of_le (by have := World.block_lt_of_cell? _ _ hw188_1; first | rwa [add_block] at this | exact this) GW182.out) | (rw [add_block]; exact Nat.ne_of_lt (Nat.lt_of_lt_of_le (by have := World.block_lt_of_cell? _ _ hw188_1; first | rwa [add_block] at this | exact this) GW182.out)) | (show (Addr.add _ _).block ≠ _; rw [add_block]; exact Nat.ne_of_lt (Nat.lt_of_lt_of_le (by have := World.block_lt_of_cell? _ _ hw188_1; first | rwa [add_block] at this | exact this) GW182.out)) | (dsimp only; exact Nat.ne_of_lt (Nat.lt_of_lt_of_le (by have := World.block_lt_of_cell? _ _ hw188_1; first | rwa [add_block] at this | exact this) GW182.out))) _).trans (hHeld.2.2.2.2.2.2.2.1)))))), ((cell_far (p := ⟨gb182, _, none⟩) (by first | exact Nat.ne_of_lt (Nat.lt_of_lt_of_le (by have := World.block_lt_of_cell? _ _ hw188_2; first | rwa [add_block] at this | exact this) GW182.out) | (rw [add_block]; exact Nat.ne_of_lt (Nat.lt_of_lt_of_le (by have := World.block_lt_of_cell? _ _ hw188_2; first | rwa [add_block] at this | exact this) GW182.out)) | (show (Addr.add _ _).block ≠ _; rw [add_block]; exact Nat.ne_of_lt (Nat.lt_of_lt_of_le (by have := World.block_lt_of_cell? _ _ hw188_2; first | rwa [add_block] at this | exact this) GW182.out)) | (dsimp only; exact Nat.ne_of_lt (Nat.lt_of_lt_of_le (by have := World.block_lt_of_cell? _ _ hw188_2; first | rwa [add_block] at this | exact this) GW182.out))) _).trans (((cell_far (p := ⟨gb182, _, none⟩) (by first | exact Nat.ne_of_lt (Nat.lt_of_lt_of_le (by have := World.block_lt_of_cell? _ _ hw188_2; first | rwa [add_block] at this | exact this) GW182.out) | (rw [add_block]; exact Nat.ne_of_lt (Nat.lt_of_lt_of_le (by have := World.block_lt_of_cell? _ _ hw188_2; first | rwa [add_block] at this | exact this) GW182.out)) | (show (Addr.add _ _).block ≠ _; rw [add_block]; exact Nat.ne_of_lt (Nat.lt_of_lt_of_le (by have := World.block_lt_of_cell? _ _ hw188_2; first | rwa [add_block] at this | exact this) GW182.out)) | (dsimp only; exact Nat.ne_of_lt (Nat.lt_of_lt_of_le (by have := World.block_lt_of_cell? _ _ hw188_2; first | rwa [add_block] at this | exact this) GW182.out))) _).trans (((cell_far (p := ⟨gb182, _, none⟩) (by first | exact Nat.ne_of_lt (Nat.lt_of_lt_of_le (by have := World.block_lt_of_cell? _ _ hw188_2; first | rwa [add_block] at this | exact this) GW182.out) | (rw [add_block]; exact Nat.ne_of_lt (Nat.lt_of_lt_of_le (by have := World.block_lt_of_cell? _ _ hw188_2; first | rwa [add_block] at this | exact this) GW182.out)) | (show (Addr.add _ _).block ≠ _; rw [add_block]; exact Nat.ne_of_lt (Nat.lt_of_lt_of_le (by have := World.block_lt_of_cell? _ _ hw188_2; first | rwa [add_block] at this | exact this) GW182.out)) | (dsimp only; exact Nat.ne_of_lt (Nat.lt_of_lt_of_le (by have := World.block_lt_of_cell? _ _ hw188_2; first | rwa [add_block] at this | exact this) GW182.out))) _).trans (hHeld.2.2.2.2.2.2.2.2))))))⟩ (fun hHeld => ?_)
 clear hK K
 refine done_ (done_of HT_.out (by kernel_rfl)) ?_
 try go_wp2
 refine bodyPost_ret (results_cell_row rfl _ _ gb182 37 #[.int .i8 ((rd_T37 l0 0).f0), .int .i8 ((rd_T37 l0 0).f1), .slice Ao9 y189.length co9] (0, 0) _ rfl (by (with_reducible repeat (first | refine blk_drewN ?_ _ | refine blk_drew ?_ | refine blk_alloc ?_ _)); refine blk_put (cs := #[.int .i8 ((rd_T37 l0 0).f0), .int .i8 ((rd_T37 l0 0).f1), .slice none 0 0]) ?_ 2 _ rfl; (with_reducible repeat (first | refine blk_drewN ?_ _ | refine blk_drew ?_ | refine blk_alloc ?_ _)); refine blk_put (cs := #[.int .i8 ((rd_T37 l0 0).f0), .int .i8 0, .slice none 0 0]) ?_ 1 _ rfl; (with_reducible repeat (first | refine blk_drewN ?_ _ | refine blk_drew ?_ | refine blk_alloc ?_ _)); refine blk_put (cs := #[.int .i8 0, .int .i8 0, .slice none 0 0]) ?_ 0 _ rfl; (with_reducible repeat (first | refine blk_drewN ?_ _ | refine blk_drew ?_ | refine blk_alloc ?_ _)); exact BK182.out) Try.underlying37 rfl (by kernel_rfl)) rfl ?_
 exact ⟨_, by first | rfl | (simp [errW_none, errW_some] <;> rfl) | (simp [*, errW_none, errW_some] <;> rfl), by (with_reducible repeat (first | apply Kd.R_alloc | apply Kd.R_drewN | apply Kd.R_drew)); exact Kd.R_mono (Kd.R_far (p := ⟨gb182, 2, none⟩) (Kd.R_far (p := ⟨gb182, 1, none⟩) (Kd.R_far (p := ⟨gb182, 0, none⟩) (Kd.R_types HO191.out BK182.out (by decide)) (fun _ hk => hk.2) (.int .i8 ((rd_T37 l0 0).f0))) (fun _ hk => hk.2) (.int .i8 ((rd_T37 l0 0).f1))) (fun _ hk => hk.2) (.slice Ao9 y189.length co9)) (fun _ hk => trivial), by repeat (first | (with_reducible first | exact HB.out | apply below_alloc | apply pw_below_drewN | apply below_drew1 | refine below_set ?_ GE182.out) | exact HB.out)⟩
/-! ### spec_PutPiece: function 64 -/
def spec_PutPiece.j0 : Nat → Bool → Int → Int → List (S91) → Int → Int → Int → Int → Int → Option (Int × Int × (List (S91)) × Int)
  | 0, _, _, _, _, _, _, _, _, _ => none
  | k + 1, x12, x193000, x193001, x193002, x194000, x194001, x194002, x194003, x194004 => if x12 = true then (some (0, 0, ([] : List (S91)), 1)) else ((spec_l01In.f x194000 x194001 (wrap64 (x193000)) (wrap64 (x193001))).bind fun t197 => (if t197 = true then ((spec_l01Find.f k [(⟨x193000, x193001, x193002⟩ : S37)] x194000 x194001).bind fun t198 => (if t198 ≥ 0 then (some (0, 0, ([] : List (S91)), 4)) else (if (x193002.length : Int) = 200 then (some (0, 0, ([] : List (S91)), 3)) else ((spec_l01Copy.f [(⟨x193000, x193001, x193002⟩ : S37)]).bind fun bt199 => (if bt199.2.2.length < 28147497671065 then (some (bt199.1, bt199.2.1, (bt199.2.2 ++ [(⟨(⟨x194000, x194001⟩ : S74), x194002, x194003, x194004⟩ : S91)]), 0)) else (none)))))) else (some (0, 0, ([] : List (S91)), 2))))
def spec_PutPiece.f (k : Nat) (a0_0 : Int) (a0_1 : Int) (l0_2 : List (S91)) (a1_0 : Int) (a1_1 : Int) (a1_2 : Int) (a1_3 : Int) (a1_4 : Int) : Option (Int × Int × (List (S91)) × Int) := (spec_l01Ok.f k [(⟨a0_0, a0_1, l0_2⟩ : S37)]).bind fun t195 => (if t195 = true then ((spec_l01Piece.f [(⟨(⟨a1_0, a1_1⟩ : S74), a1_2, a1_3, a1_4⟩ : S91)]).bind fun t196 => (spec_PutPiece.j0 k (!t196) a0_0 a0_1 l0_2 a1_0 a1_1 a1_2 a1_3 a1_4)) else (spec_PutPiece.j0 k true a0_0 a0_1 l0_2 a1_0 a1_1 a1_2 a1_3 a1_4))
theorem spec_PutPiece.mono_l : ∀ k, (∀ y0 y1 y2 y3 y4 y5 y6 y7 y8, LeO (spec_PutPiece.j0 k y0 y1 y2 y3 y4 y5 y6 y7 y8) (spec_PutPiece.j0 (k + 1) y0 y1 y2 y3 y4 y5 y6 y7 y8))
  | 0 => fun _ _ _ _ _ _ _ _ _ r h => by simp [spec_PutPiece.j0] at h
  | k + 1 => by
    have ih0 := spec_PutPiece.mono_l k
    · intro y0 y1 y2 y3 y4 y5 y6 y7 y8
      unfold spec_PutPiece.j0
      repeat' first | (with_reducible first | apply ih0 | apply spec_l01Find.mono | apply spec_l01Ok.mono | exact LeO.refl _ | exact LeO.none _ | refine LeO.ite ?_ ?_ | refine LeO.bind ?_ (fun _ => ?_)) | apply ih0 | apply spec_l01Find.mono | apply spec_l01Ok.mono | exact LeO.none _ | refine LeO.ite ?_ ?_ | refine LeO.bind ?_ (fun _ => ?_)
theorem spec_PutPiece.mono : ∀ a0 a1 a2 a3 a4 a5 a6 a7 k, LeO (spec_PutPiece.f k a0 a1 a2 a3 a4 a5 a6 a7) (spec_PutPiece.f (k + 1) a0 a1 a2 a3 a4 a5 a6 a7) := by
 intro a0 a1 a2 a3 a4 a5 a6 a7 k
 have ih0 := spec_PutPiece.mono_l k
 unfold spec_PutPiece.f
 repeat' first | (with_reducible first | apply ih0 | apply spec_l01Find.mono | apply spec_l01Ok.mono | exact LeO.refl _ | exact LeO.none _ | refine LeO.ite ?_ ?_ | refine LeO.bind ?_ (fun _ => ?_)) | apply ih0 | apply spec_l01Find.mono | apply spec_l01Ok.mono | exact LeO.none _ | refine LeO.ite ?_ ?_ | refine LeO.bind ?_ (fun _ => ?_)
set_option maxHeartbeats 8000000 in
set_option maxRecDepth 100000 in
theorem spec_PutPiece.calls (k : Nat) (a0_0 : Int) (a0_1 : Int) (A0_2 : Option Addr) (c0_2 : Nat) (l0_2 : List (S91)) (a1_0 : Int) (a1_1 : Int) (a1_2 : Int) (a1_3 : Int) (a1_4 : Int) (r1 : Int) (r2 : Int) (r3 : List (S91)) (r4 : Int) (w : World) (hr0_2 : Kd.C k91 w A0_2 l0_2.length l0_2) (hc0_2 : l0_2.length ≤ c0_2) (h : spec_PutPiece.f k a0_0 a0_1 l0_2 a1_0 a1_1 a1_2 a1_3 a1_4 = some (r1, r2, r3, r4)) :
    Calls Try.prog 64 #[.agg #[.int .i8 a0_0, .int .i8 a0_1, .slice A0_2 l0_2.length c0_2], .agg #[.int .i8 a1_0, .int .i8 a1_1, .int .i8 a1_2, .int .i8 a1_3, .int .i8 a1_4]] w fun e w' => ∃ v2_ : Value, e = .returned (.tuple #[.agg #[.int .i8 r1, .int .i8 r2, v2_], .int .i64 r4]) ∧ Kd.R k91 91 w' w.heap.size (fun _ => True) v2_ r3 ∧ Below w.heap.size w w' := by
 have hu37 := Try.underlying37
 have hu91 := Try.underlying91
 have hu74 := Try.underlying74
 have HR0_2 := Aside0.mk hr0_2
 have HC0_2 := Aside0.mk hc0_2
 clear hr0_2 hc0_2
 have HB := Aside0.mk (Below.refl w.heap.size w)
 have H : ((spec_l01Ok.f k [(⟨a0_0, a0_1, l0_2⟩ : S37)]).bind fun t195 => (if t195 = true then ((spec_l01Piece.f [(⟨(⟨a1_0, a1_1⟩ : S74), a1_2, a1_3, a1_4⟩ : S91)]).bind fun t196 => (spec_PutPiece.j0 k (!t196) a0_0 a0_1 l0_2 a1_0 a1_1 a1_2 a1_3 a1_4)) else (spec_PutPiece.j0 k true a0_0 a0_1 l0_2 a1_0 a1_1 a1_2 a1_3 a1_4))) = some (r1, r2, r3, r4) := h
 clear h
 have HC3 := Aside0.mk H
 clear H
 go_enter Try.func64, Try.ntmps64
 go_upto_region 1 with (first | ((with_reducible refine gate_dst (N := 2) rfl ?_); refine box_event ?hg (N := 2) ?hd (cs := #[.int .i8 a0_0, .int .i8 a0_1, .slice A0_2 l0_2.length c0_2]) (t := 37) ?hr ?_; (case hd => rfl); (case hg => rfl); (case hr => first | (go_simp; done) | (go_simp; rfl)); intro gb192 hg w4 hbox hb; have n_ : _ ∧ _ ∧ _ ∧ _ := ⟨zb HB hb, Aside0.mk (hbox), zg HB hg, zg HB hg⟩; clear HB; obtain ⟨HB, BK192, GW192, GE192⟩ := n_; clear hb hbox hg) | ((with_reducible refine gate_dst (N := 3) rfl ?_); refine box_event ?hg (N := 3) ?hd (cs := #[.int .i8 a1_0, .int .i8 a1_1, .int .i8 a1_2, .int .i8 a1_3, .int .i8 a1_4]) (t := 91) ?hr ?_; (case hd => rfl); (case hg => rfl); (case hr => first | (go_simp; done) | (go_simp; rfl)); intro gb193 hg w5 hbox hb; have n_ : _ ∧ _ ∧ _ ∧ _ ∧ _ ∧ _ ∧ _ := ⟨zk BK192 hb, zbs hb, Aside0.mk (hbox), zg HB hg, zg HB hg, zn1 BK192 hg, zn2 BK192 hg⟩; clear BK192 HB; obtain ⟨BK192, HB, BK193, GW193, GE193, NB192_193, NB193_192⟩ := n_; clear hb hbox hg) | ((with_reducible refine gate_dst (N := 4) rfl ?_); refine box_event ?hg (N := 4) ?hd (cs := #[.int .i8 0, .int .i8 0, .slice none 0 0]) (t := 37) ?hr ?_; (case hd => rfl); (case hg => rfl); (case hr => first | (go_simp; done) | (go_simp; rfl)); intro gb194 hg w6 hbox hb; have n_ : _ ∧ _ ∧ _ ∧ _ ∧ _ ∧ _ ∧ _ ∧ _ ∧ _ ∧ _ := ⟨zk BK192 hb, zk BK193 hb, zbs hb, Aside0.mk (hbox), zg HB hg, zg HB hg, zn1 BK192 hg, zn2 BK192 hg, zn1 BK193 hg, zn2 BK193 hg⟩; clear BK192 BK193 HB; obtain ⟨BK192, BK193, HB, BK194, GW194, GE194, NB192_194, NB194_192, NB193_194, NB194_193⟩ := n_; clear hb hbox hg))
 (try simp only [Act.put, List.setIfInBounds_toArray, List.set_cons_zero, List.set_cons_succ])
 go_cut [12] (fun v12 wc => ∃ (kq : Nat) (x12_2 : Bool), v12 = .bool x12_2 ∧ Aside0 (spec_PutPiece.j0 kq x12_2 a0_0 a0_1 l0_2 a1_0 a1_1 a1_2 a1_3 a1_4 = some (r1, r2, r3, r4)) ∧ Aside0 (kq ≤ k) ∧ Aside0 (wc.heap[gb192]? = some (.cells #[.int .i8 a0_0, .int .i8 a0_1, (.slice A0_2 l0_2.length c0_2)] 37 (0, 0))) ∧ Aside0 (wc.heap[gb193]? = some (.cells #[.int .i8 a1_0, .int .i8 a1_1, .int .i8 a1_2, .int .i8 a1_3, .int .i8 a1_4] 91 (0, 0))) ∧ Aside0 (wc.heap[gb194]? = some (.cells #[.int .i8 0, .int .i8 0, (.slice none 0 0)] 37 (0, 0))) ∧ Aside0 (Below w.heap.size w wc))
 case first =>
  have H := HC3.out
  clear HC3
  replace H := Option.bind_eq_some_iff.mp H
  obtain ⟨t195, A70, H⟩ := H
  replace H : (if t195 = true then ((spec_l01Piece.f [(⟨(⟨a1_0, a1_1⟩ : S74), a1_2, a1_3, a1_4⟩ : S91)]).bind fun t196 => (spec_PutPiece.j0 k (!t196) a0_0 a0_1 l0_2 a1_0 a1_1 a1_2 a1_3 a1_4)) else (spec_PutPiece.j0 k true a0_0 a0_1 l0_2 a1_0 a1_1 a1_2 a1_3 a1_4)) = some (r1, r2, r3, r4) := H
  have A7 := Aside0.mk A70
  clear A70
  by_cases c8 : t195 = true
  rotate_left
  ·replace c8 := Bool.eq_false_iff.mpr c8
   subst c8
   have H1 : (spec_PutPiece.j0 k true a0_0 a0_1 l0_2 a1_0 a1_1 a1_2 a1_3 a1_4) = some (r1, r2, r3, r4) := by rw [if_neg (show ¬ (false = true) by decide)] at H; exact H
   clear H
   have H := H1
   clear H1
   have H' := Aside0.mk H
   clear H
   go_wp2_with (first | ((with_reducible refine gate_callee (f := 106) rfl ?_); refine goesL_ (some 7) rfl rfl Try.func106 (by kernel_rfl) rfl #[.pointer (some ⟨gb192, 0, none⟩)] rfl (by (try simp only [List.map_toArray, List.map_cons, List.map_nil]); first | done | rfl | (simp only [List.length_drop, List.length_take]; rfl)) ?_; (with_reducible refine (spec_l01Ok.calls k _ [(⟨a0_0, a0_1, l0_2⟩ : S37)] false _ ?side1 A7.out).mono ?_); (case side1 => refine ro_of_blk (T := 37) (cs := #[.int .i8 a0_0, .int .i8 a0_1, .slice A0_2 l0_2.length c0_2]) (zh BK192).out ?_; exact k37_mk _ (⟨a0_0, a0_1, l0_2⟩ : S37) (by exact HC0_2.out) (by exact zcc HB HR0_2.out)); rintro e w12 ⟨rfl, hb⟩; refine ⟨_, rfl, ?_⟩; have n_ : _ ∧ _ ∧ _ ∧ _ := ⟨zk BK192 hb, zk BK193 hb, zk BK194 hb, zbs hb⟩; clear BK192 BK193 BK194 HB; obtain ⟨BK192, BK193, BK194, HB⟩ := n_; (try clear hb); (try clear hb2); (try clear hk); (try clear hi)))
   go_meet
   case rel => exact ⟨_, (true), (by first | rfl | (simp; done) | (simp [*]; done) | (exact congrArg (Value.int .i64) (wrap_eq (by omega)))), H', ⟨by first | omega | exact Nat.le_refl _⟩, zh BK192, zh BK193, zh BK194, zba⟩
  subst c8
  have H1 : ((spec_l01Piece.f [(⟨(⟨a1_0, a1_1⟩ : S74), a1_2, a1_3, a1_4⟩ : S91)]).bind fun t196 => (spec_PutPiece.j0 k (!t196) a0_0 a0_1 l0_2 a1_0 a1_1 a1_2 a1_3 a1_4)) = some (r1, r2, r3, r4) := by rw [if_pos rfl] at H; exact H
  clear H
  have H := H1
  clear H1
  replace H := Option.bind_eq_some_iff.mp H
  obtain ⟨t196, A90, H⟩ := H
  replace H : (spec_PutPiece.j0 k (!t196) a0_0 a0_1 l0_2 a1_0 a1_1 a1_2 a1_3 a1_4) = some (r1, r2, r3, r4) := H
  have A9 := Aside0.mk A90
  clear A90
  have H' := Aside0.mk H
  clear H
  go_wp2_with (first | ((with_reducible refine gate_callee (f := 106) rfl ?_); refine goesL_ (some 7) rfl rfl Try.func106 (by kernel_rfl) rfl #[.pointer (some ⟨gb192, 0, none⟩)] rfl (by (try simp only [List.map_toArray, List.map_cons, List.map_nil]); first | done | rfl | (simp only [List.length_drop, List.length_take]; rfl)) ?_; (with_reducible refine (spec_l01Ok.calls k _ [(⟨a0_0, a0_1, l0_2⟩ : S37)] true _ ?side1 A7.out).mono ?_); (case side1 => refine ro_of_blk (T := 37) (cs := #[.int .i8 a0_0, .int .i8 a0_1, .slice A0_2 l0_2.length c0_2]) (zh BK192).out ?_; exact k37_mk _ (⟨a0_0, a0_1, l0_2⟩ : S37) (by exact HC0_2.out) (by exact zcc HB HR0_2.out)); rintro e w10 ⟨rfl, hb⟩; refine ⟨_, rfl, ?_⟩; have n_ : _ ∧ _ ∧ _ ∧ _ := ⟨zk BK192 hb, zk BK193 hb, zk BK194 hb, zbs hb⟩; clear BK192 BK193 BK194 HB; obtain ⟨BK192, BK193, BK194, HB⟩ := n_; (try clear hb); (try clear hb2); (try clear hk); (try clear hi)) | (go_at_call 132; (with_reducible refine (spec_l01Piece.calls _ [(⟨(⟨a1_0, a1_1⟩ : S74), a1_2, a1_3, a1_4⟩ : S91)] t196 _ ?side1 A9.out).mono ?_); (case side1 => refine ro_of_blk (T := 91) (cs := #[.int .i8 a1_0, .int .i8 a1_1, .int .i8 a1_2, .int .i8 a1_3, .int .i8 a1_4]) (zh BK193).out ?_; exact k91_mk _ (⟨(⟨a1_0, a1_1⟩ : S74), a1_2, a1_3, a1_4⟩ : S91) ); rintro e w11 ⟨rfl, hb⟩; have n_ : _ ∧ _ ∧ _ ∧ _ := ⟨zk BK192 hb, zk BK193 hb, zk BK194 hb, zbs hb⟩; clear BK192 BK193 BK194 HB; obtain ⟨BK192, BK193, BK194, HB⟩ := n_; (try clear hb); (try clear hb2); (try clear hk); (try clear hi)))
  go_meet
  case rel => exact ⟨_, (!t196), (by first | rfl | (simp; done) | (simp [*]; done) | (exact congrArg (Value.int .i64) (wrap_eq (by omega)))), H', ⟨by first | omega | exact Nat.le_refl _⟩, zh BK192, zh BK193, zh BK194, zba⟩
 clear HC3
 try clear c1
 try clear p2
 try clear c6
 try clear c8
 try clear c10
 obtain ⟨kq, x12_2, rfl, HA, HJ2, BK192, BK193, BK194, HB⟩ := hcut
 cases kq with
 | zero => exact absurd HA.out (by simp [spec_PutPiece.j0])
 | succ kj2 => ?_
 have H := HA.out
 clear HA
 simp only [spec_PutPiece.j0] at H
 by_cases c13 : x12_2 = true
 ·subst c13
  have H1 : (some (0, 0, ([] : List (S91)), 1)) = some (r1, r2, r3, r4) := by rw [if_pos rfl] at H; exact H
  clear H
  have H := H1
  clear H1
  simp only [Option.some.injEq, Prod.mk.injEq] at H
  obtain ⟨rfl, rfl, rfl, rfl⟩ := H
  have hnb14 := NB194_192.out
  have hnc14 := NB192_194.out
  have hnb15 := NB194_193.out
  have hnc15 := NB193_194.out
  obtain ⟨z16_0, z16_1, z16_2, y16_0, y16_1, y16_2⟩ := zB3 BK194
  go_wp2
  refine bodyPost_ret (results_ct rfl _ _ gb194 37 #[.int .i8 0, .int .i8 0, .slice none 0 0] (0, 0) _ rfl (by (with_reducible repeat (first | refine blk_drewN ?_ _ | refine blk_drew ?_ | refine blk_alloc ?_ _)); refine blk_put (cs := #[.int .i8 0, .int .i8 0, .slice none 0 0]) ?_ 2 _ rfl; (with_reducible repeat (first | refine blk_drewN ?_ _ | refine blk_drew ?_ | refine blk_alloc ?_ _)); refine blk_put (cs := #[.int .i8 0, .int .i8 0, .slice none 0 0]) ?_ 1 _ rfl; (with_reducible repeat (first | refine blk_drewN ?_ _ | refine blk_drew ?_ | refine blk_alloc ?_ _)); refine blk_put (cs := #[.int .i8 0, .int .i8 0, .slice none 0 0]) ?_ 0 _ rfl; (with_reducible repeat (first | refine blk_drewN ?_ _ | refine blk_drew ?_ | refine blk_alloc ?_ _)); exact BK194.out) Try.underlying37 rfl (by kernel_rfl)) rfl ?_
  exact ⟨_, by first | rfl | (simp [errW_none, errW_some] <;> rfl) | (simp [*, errW_none, errW_some] <;> rfl), by first | exact Kd.R_nil _ _ _ _ _ | exact Kd.N_nil _ _ _ _ _ | exact Kd.V_nil _ _ _ _ _ | exact Kd.Q_nil _ _ _ _ _ | exact Kd.S_nil _ _ _ _ _, by repeat (first | (with_reducible first | exact HB.out | apply below_alloc | apply pw_below_drewN | apply below_drew1 | refine below_set ?_ GE192.out | refine below_set ?_ GE193.out | refine below_set ?_ GE194.out) | exact HB.out)⟩
 replace c13 := Bool.eq_false_iff.mpr c13
 subst c13
 have H1 : ((spec_l01In.f a1_0 a1_1 (wrap64 (a0_0)) (wrap64 (a0_1))).bind fun t197 => (if t197 = true then ((spec_l01Find.f kj2 [(⟨a0_0, a0_1, l0_2⟩ : S37)] a1_0 a1_1).bind fun t198 => (if t198 ≥ 0 then (some (0, 0, ([] : List (S91)), 4)) else (if (l0_2.length : Int) = 200 then (some (0, 0, ([] : List (S91)), 3)) else ((spec_l01Copy.f [(⟨a0_0, a0_1, l0_2⟩ : S37)]).bind fun bt199 => (if bt199.2.2.length < 28147497671065 then (some (bt199.1, bt199.2.1, (bt199.2.2 ++ [(⟨(⟨a1_0, a1_1⟩ : S74), a1_2, a1_3, a1_4⟩ : S91)]), 0)) else (none)))))) else (some (0, 0, ([] : List (S91)), 2)))) = some (r1, r2, r3, r4) := by rw [if_neg (show ¬ (false = true) by decide)] at H; exact H
 clear H
 have H := H1
 clear H1
 replace H := Option.bind_eq_some_iff.mp H
 obtain ⟨t197, A170, H⟩ := H
 replace H : (if t197 = true then ((spec_l01Find.f kj2 [(⟨a0_0, a0_1, l0_2⟩ : S37)] a1_0 a1_1).bind fun t198 => (if t198 ≥ 0 then (some (0, 0, ([] : List (S91)), 4)) else (if (l0_2.length : Int) = 200 then (some (0, 0, ([] : List (S91)), 3)) else ((spec_l01Copy.f [(⟨a0_0, a0_1, l0_2⟩ : S37)]).bind fun bt199 => (if bt199.2.2.length < 28147497671065 then (some (bt199.1, bt199.2.1, (bt199.2.2 ++ [(⟨(⟨a1_0, a1_1⟩ : S74), a1_2, a1_3, a1_4⟩ : S91)]), 0)) else (none)))))) else (some (0, 0, ([] : List (S91)), 2))) = some (r1, r2, r3, r4) := H
 have A17 := Aside0.mk A170
 clear A170
 by_cases c18 : t197 = true
 rotate_left
 ·replace c18 := Bool.eq_false_iff.mpr c18
  subst c18
  have H1 : (some (0, 0, ([] : List (S91)), 2)) = some (r1, r2, r3, r4) := by rw [if_neg (show ¬ (false = true) by decide)] at H; exact H
  clear H
  have H := H1
  clear H1
  simp only [Option.some.injEq, Prod.mk.injEq] at H
  obtain ⟨rfl, rfl, rfl, rfl⟩ := H
  have hnb64 := NB193_192.out
  have hnc64 := NB192_193.out
  have hnb65 := NB193_194.out
  have hnc65 := NB194_193.out
  obtain ⟨z66_0, z66_1, z66_2, z66_3, z66_4, y66_0, y66_1, y66_2, y66_3, y66_4⟩ := zB5 BK193
  have hnb67 := NB192_194.out
  have hnc67 := NB194_192.out
  obtain ⟨z68_0, z68_1, z68_2, y68_0, y68_1, y68_2⟩ := zB3 BK192
  go_wp2_with (first | ((with_reducible refine gate_callee (f := 133) rfl ?_); refine goesL_ (some 22) rfl rfl Try.func133 (by kernel_rfl) rfl #[.agg #[.int .i8 a1_0, .int .i8 a1_1], .int .i64 (wrap64 (a0_0)), .int .i64 (wrap64 (a0_1))] rfl (by (try simp only [List.map_toArray, List.map_cons, List.map_nil]); first | done | rfl | (simp only [List.length_drop, List.length_take]; rfl)) ?_; (with_reducible refine (spec_l01In.calls a1_0 a1_1 (wrap64 (a0_0)) (wrap64 (a0_1)) false _ A17.out).mono ?_); rintro e w69 ⟨rfl, hb⟩; refine ⟨_, rfl, ?_⟩; have n_ : _ ∧ _ ∧ _ ∧ _ := ⟨zk BK192 hb, zk BK193 hb, zk BK194 hb, zbs hb⟩; clear BK192 BK193 BK194 HB; obtain ⟨BK192, BK193, BK194, HB⟩ := n_; (try clear hb); (try clear hb2); (try clear hk); (try clear hi); obtain ⟨z70_0, z70_1, z70_2, y70_0, y70_1, y70_2⟩ := zB3 BK194))
  refine bodyPost_ret (results_ct rfl _ _ gb194 37 #[.int .i8 0, .int .i8 0, .slice none 0 0] (0, 0) _ rfl (by (with_reducible repeat (first | refine blk_drewN ?_ _ | refine blk_drew ?_ | refine blk_alloc ?_ _)); refine blk_put (cs := #[.int .i8 0, .int .i8 0, .slice none 0 0]) ?_ 2 _ rfl; (with_reducible repeat (first | refine blk_drewN ?_ _ | refine blk_drew ?_ | refine blk_alloc ?_ _)); refine blk_put (cs := #[.int .i8 0, .int .i8 0, .slice none 0 0]) ?_ 1 _ rfl; (with_reducible repeat (first | refine blk_drewN ?_ _ | refine blk_drew ?_ | refine blk_alloc ?_ _)); refine blk_put (cs := #[.int .i8 0, .int .i8 0, .slice none 0 0]) ?_ 0 _ rfl; (with_reducible repeat (first | refine blk_drewN ?_ _ | refine blk_drew ?_ | refine blk_alloc ?_ _)); exact BK194.out) Try.underlying37 rfl (by kernel_rfl)) rfl ?_
  exact ⟨_, by first | rfl | (simp [errW_none, errW_some] <;> rfl) | (simp [*, errW_none, errW_some] <;> rfl), by first | exact Kd.R_nil _ _ _ _ _ | exact Kd.N_nil _ _ _ _ _ | exact Kd.V_nil _ _ _ _ _ | exact Kd.Q_nil _ _ _ _ _ | exact Kd.S_nil _ _ _ _ _, by repeat (first | (with_reducible first | exact HB.out | apply below_alloc | apply pw_below_drewN | apply below_drew1 | refine below_set ?_ GE192.out | refine below_set ?_ GE193.out | refine below_set ?_ GE194.out) | exact HB.out)⟩
 subst c18
 have H1 : ((spec_l01Find.f kj2 [(⟨a0_0, a0_1, l0_2⟩ : S37)] a1_0 a1_1).bind fun t198 => (if t198 ≥ 0 then (some (0, 0, ([] : List (S91)), 4)) else (if (l0_2.length : Int) = 200 then (some (0, 0, ([] : List (S91)), 3)) else ((spec_l01Copy.f [(⟨a0_0, a0_1, l0_2⟩ : S37)]).bind fun bt199 => (if bt199.2.2.length < 28147497671065 then (some (bt199.1, bt199.2.1, (bt199.2.2 ++ [(⟨(⟨a1_0, a1_1⟩ : S74), a1_2, a1_3, a1_4⟩ : S91)]), 0)) else (none)))))) = some (r1, r2, r3, r4) := by rw [if_pos rfl] at H; exact H
 clear H
 have H := H1
 clear H1
 replace H := Option.bind_eq_some_iff.mp H
 obtain ⟨t198, A190, H⟩ := H
 replace H : (if t198 ≥ 0 then (some (0, 0, ([] : List (S91)), 4)) else (if (l0_2.length : Int) = 200 then (some (0, 0, ([] : List (S91)), 3)) else ((spec_l01Copy.f [(⟨a0_0, a0_1, l0_2⟩ : S37)]).bind fun bt199 => (if bt199.2.2.length < 28147497671065 then (some (bt199.1, bt199.2.1, (bt199.2.2 ++ [(⟨(⟨a1_0, a1_1⟩ : S74), a1_2, a1_3, a1_4⟩ : S91)]), 0)) else (none))))) = some (r1, r2, r3, r4) := H
 have A19 := Aside0.mk A190
 clear A190
 by_cases c20 : t198 ≥ 0
 ·rw [if_pos c20] at H
  have c20b0 : decide (0 ≤ t198) = true := decide_eq_true c20
  clear c20
  simp only [Option.some.injEq, Prod.mk.injEq] at H
  obtain ⟨rfl, rfl, rfl, rfl⟩ := H
  have hnb21 := NB193_192.out
  have hnc21 := NB192_193.out
  have hnb22 := NB193_194.out
  have hnc22 := NB194_193.out
  obtain ⟨z23_0, z23_1, z23_2, z23_3, z23_4, y23_0, y23_1, y23_2, y23_3, y23_4⟩ := zB5 BK193
  have hnb24 := NB192_194.out
  have hnc24 := NB194_192.out
  obtain ⟨z25_0, z25_1, z25_2, y25_0, y25_1, y25_2⟩ := zB3 BK192
  go_wp2_with (first | ((with_reducible refine gate_callee (f := 133) rfl ?_); refine goesL_ (some 22) rfl rfl Try.func133 (by kernel_rfl) rfl #[.agg #[.int .i8 a1_0, .int .i8 a1_1], .int .i64 (wrap64 (a0_0)), .int .i64 (wrap64 (a0_1))] rfl (by (try simp only [List.map_toArray, List.map_cons, List.map_nil]); first | done | rfl | (simp only [List.length_drop, List.length_take]; rfl)) ?_; (with_reducible refine (spec_l01In.calls a1_0 a1_1 (wrap64 (a0_0)) (wrap64 (a0_1)) true _ A17.out).mono ?_); rintro e w26 ⟨rfl, hb⟩; refine ⟨_, rfl, ?_⟩; have n_ : _ ∧ _ ∧ _ ∧ _ := ⟨zk BK192 hb, zk BK193 hb, zk BK194 hb, zbs hb⟩; clear BK192 BK193 BK194 HB; obtain ⟨BK192, BK193, BK194, HB⟩ := n_; (try clear hb); (try clear hb2); (try clear hk); (try clear hi); obtain ⟨z27_0, z27_1, z27_2, z27_3, z27_4, y27_0, y27_1, y27_2, y27_3, y27_4⟩ := zB5 BK193) | ((with_reducible refine gate_callee (f := 111) rfl ?_); refine goesL_ (some 27) rfl rfl Try.func111 (by kernel_rfl) rfl #[.pointer (some ⟨gb192, 0, none⟩), .agg #[.int .i8 a1_0, .int .i8 a1_1]] rfl (by (try simp only [List.map_toArray, List.map_cons, List.map_nil]); first | done | rfl | (simp only [List.length_drop, List.length_take]; rfl)) ?_; (with_reducible refine (spec_l01Find.calls kj2 _ [(⟨a0_0, a0_1, l0_2⟩ : S37)] a1_0 a1_1 t198 _ ?side1 A19.out).mono ?_); (case side1 => refine ro_of_blk (T := 37) (cs := #[.int .i8 a0_0, .int .i8 a0_1, .slice A0_2 l0_2.length c0_2]) (zh BK192).out ?_; exact k37_mk _ (⟨a0_0, a0_1, l0_2⟩ : S37) (by exact HC0_2.out) (by exact zcc HB HR0_2.out)); rintro e w28 ⟨rfl, hb⟩; refine ⟨_, rfl, ?_⟩; have n_ : _ ∧ _ ∧ _ ∧ _ := ⟨zk BK192 hb, zk BK193 hb, zk BK194 hb, zbs hb⟩; clear BK192 BK193 BK194 HB; obtain ⟨BK192, BK193, BK194, HB⟩ := n_; (try clear hb); (try clear hb2); (try clear hk); (try clear hi); obtain ⟨z29_0, z29_1, z29_2, y29_0, y29_1, y29_2⟩ := zB3 BK194))
  refine bodyPost_ret (results_ct rfl _ _ gb194 37 #[.int .i8 0, .int .i8 0, .slice none 0 0] (0, 0) _ rfl (by (with_reducible repeat (first | refine blk_drewN ?_ _ | refine blk_drew ?_ | refine blk_alloc ?_ _)); refine blk_put (cs := #[.int .i8 0, .int .i8 0, .slice none 0 0]) ?_ 2 _ rfl; (with_reducible repeat (first | refine blk_drewN ?_ _ | refine blk_drew ?_ | refine blk_alloc ?_ _)); refine blk_put (cs := #[.int .i8 0, .int .i8 0, .slice none 0 0]) ?_ 1 _ rfl; (with_reducible repeat (first | refine blk_drewN ?_ _ | refine blk_drew ?_ | refine blk_alloc ?_ _)); refine blk_put (cs := #[.int .i8 0, .int .i8 0, .slice none 0 0]) ?_ 0 _ rfl; (with_reducible repeat (first | refine blk_drewN ?_ _ | refine blk_drew ?_ | refine blk_alloc ?_ _)); exact BK194.out) Try.underlying37 rfl (by kernel_rfl)) rfl ?_
  exact ⟨_, by first | rfl | (simp [errW_none, errW_some] <;> rfl) | (simp [*, errW_none, errW_some] <;> rfl), by first | exact Kd.R_nil _ _ _ _ _ | exact Kd.N_nil _ _ _ _ _ | exact Kd.V_nil _ _ _ _ _ | exact Kd.Q_nil _ _ _ _ _ | exact Kd.S_nil _ _ _ _ _, by repeat (first | (with_reducible first | exact HB.out | apply below_alloc | apply pw_below_drewN | apply below_drew1 | refine below_set ?_ GE192.out | refine below_set ?_ GE193.out | refine below_set ?_ GE194.out) | exact HB.out)⟩
 rw [if_neg c20] at H
 have c20b0 : decide (0 ≤ t198) = false := decide_eq_false c20
 clear c20
 by_cases c30 : (l0_2.length : Int) = 200
 ·rw [if_pos c30] at H
  have c30b0 : ((l0_2.length : Int) == 200) = true := beq_iff_eq.mpr c30
  have c30b1 : ((l0_2.length : Int) != 200) = false := bne_eq_false_iff_eq.mpr c30
  clear c30
  simp only [Option.some.injEq, Prod.mk.injEq] at H
  obtain ⟨rfl, rfl, rfl, rfl⟩ := H
  have hnb31 := NB193_192.out
  have hnc31 := NB192_193.out
  have hnb32 := NB193_194.out
  have hnc32 := NB194_193.out
  obtain ⟨z33_0, z33_1, z33_2, z33_3, z33_4, y33_0, y33_1, y33_2, y33_3, y33_4⟩ := zB5 BK193
  have hnb34 := NB192_194.out
  have hnc34 := NB194_192.out
  obtain ⟨z35_0, z35_1, z35_2, y35_0, y35_1, y35_2⟩ := zB3 BK192
  go_wp2_with (first | ((with_reducible refine gate_callee (f := 133) rfl ?_); refine goesL_ (some 22) rfl rfl Try.func133 (by kernel_rfl) rfl #[.agg #[.int .i8 a1_0, .int .i8 a1_1], .int .i64 (wrap64 (a0_0)), .int .i64 (wrap64 (a0_1))] rfl (by (try simp only [List.map_toArray, List.map_cons, List.map_nil]); first | done | rfl | (simp only [List.length_drop, List.length_take]; rfl)) ?_; (with_reducible refine (spec_l01In.calls a1_0 a1_1 (wrap64 (a0_0)) (wrap64 (a0_1)) true _ A17.out).mono ?_); rintro e w36 ⟨rfl, hb⟩; refine ⟨_, rfl, ?_⟩; have n_ : _ ∧ _ ∧ _ ∧ _ := ⟨zk BK192 hb, zk BK193 hb, zk BK194 hb, zbs hb⟩; clear BK192 BK193 BK194 HB; obtain ⟨BK192, BK193, BK194, HB⟩ := n_; (try clear hb); (try clear hb2); (try clear hk); (try clear hi); obtain ⟨z37_0, z37_1, z37_2, z37_3, z37_4, y37_0, y37_1, y37_2, y37_3, y37_4⟩ := zB5 BK193) | ((with_reducible refine gate_callee (f := 111) rfl ?_); refine goesL_ (some 27) rfl rfl Try.func111 (by kernel_rfl) rfl #[.pointer (some ⟨gb192, 0, none⟩), .agg #[.int .i8 a1_0, .int .i8 a1_1]] rfl (by (try simp only [List.map_toArray, List.map_cons, List.map_nil]); first | done | rfl | (simp only [List.length_drop, List.length_take]; rfl)) ?_; (with_reducible refine (spec_l01Find.calls kj2 _ [(⟨a0_0, a0_1, l0_2⟩ : S37)] a1_0 a1_1 t198 _ ?side1 A19.out).mono ?_); (case side1 => refine ro_of_blk (T := 37) (cs := #[.int .i8 a0_0, .int .i8 a0_1, .slice A0_2 l0_2.length c0_2]) (zh BK192).out ?_; exact k37_mk _ (⟨a0_0, a0_1, l0_2⟩ : S37) (by exact HC0_2.out) (by exact zcc HB HR0_2.out)); rintro e w38 ⟨rfl, hb⟩; refine ⟨_, rfl, ?_⟩; have n_ : _ ∧ _ ∧ _ ∧ _ := ⟨zk BK192 hb, zk BK193 hb, zk BK194 hb, zbs hb⟩; clear BK192 BK193 BK194 HB; obtain ⟨BK192, BK193, BK194, HB⟩ := n_; (try clear hb); (try clear hb2); (try clear hk); (try clear hi); obtain ⟨z39_0, z39_1, z39_2, y39_0, y39_1, y39_2⟩ := zB3 BK192; obtain ⟨z40_0, z40_1, z40_2, y40_0, y40_1, y40_2⟩ := zB3 BK194))
  refine bodyPost_ret (results_ct rfl _ _ gb194 37 #[.int .i8 0, .int .i8 0, .slice none 0 0] (0, 0) _ rfl (by (with_reducible repeat (first | refine blk_drewN ?_ _ | refine blk_drew ?_ | refine blk_alloc ?_ _)); refine blk_put (cs := #[.int .i8 0, .int .i8 0, .slice none 0 0]) ?_ 2 _ rfl; (with_reducible repeat (first | refine blk_drewN ?_ _ | refine blk_drew ?_ | refine blk_alloc ?_ _)); refine blk_put (cs := #[.int .i8 0, .int .i8 0, .slice none 0 0]) ?_ 1 _ rfl; (with_reducible repeat (first | refine blk_drewN ?_ _ | refine blk_drew ?_ | refine blk_alloc ?_ _)); refine blk_put (cs := #[.int .i8 0, .int .i8 0, .slice none 0 0]) ?_ 0 _ rfl; (with_reducible repeat (first | refine blk_drewN ?_ _ | refine blk_drew ?_ | refine blk_alloc ?_ _)); exact BK194.out) Try.underlying37 rfl (by kernel_rfl)) rfl ?_
  exact ⟨_, by first | rfl | (simp [errW_none, errW_some] <;> rfl) | (simp [*, errW_none, errW_some] <;> rfl), by first | exact Kd.R_nil _ _ _ _ _ | exact Kd.N_nil _ _ _ _ _ | exact Kd.V_nil _ _ _ _ _ | exact Kd.Q_nil _ _ _ _ _ | exact Kd.S_nil _ _ _ _ _, by repeat (first | (with_reducible first | exact HB.out | apply below_alloc | apply pw_below_drewN | apply below_drew1 | refine below_set ?_ GE192.out | refine below_set ?_ GE193.out | refine below_set ?_ GE194.out) | exact HB.out)⟩
 rw [if_neg c30] at H
 have c30b0 : ((l0_2.length : Int) == 200) = false := beq_eq_false_iff_ne.mpr c30
 have c30b1 : ((l0_2.length : Int) != 200) = true := bne_iff_ne.mpr c30
 replace H := Option.bind_eq_some_iff.mp H
 obtain ⟨⟨t199, t200, t201⟩, A410, H⟩ := H
 replace H : (if t201.length < 28147497671065 then (some (t199, t200, (t201 ++ [(⟨(⟨a1_0, a1_1⟩ : S74), a1_2, a1_3, a1_4⟩ : S91)]), 0)) else (none)) = some (r1, r2, r3, r4) := H
 have A41 := Aside0.mk A410
 clear A410
 by_cases c42 : t201.length < 28147497671065
 rotate_left
 ·rw [if_neg c42] at H
  exact absurd H (by simp)
 rw [if_pos c42] at H
 have LMc42 := Aside0.mk c42
 clear c42
 obtain ⟨y205, hy205⟩ : ∃ y_ : List (S91), y_ = (t201 ++ [(⟨(⟨a1_0, a1_1⟩ : S74), a1_2, a1_3, a1_4⟩ : S91)]) := ⟨_, rfl⟩
 replace H : (some (t199, t200, y205, 0)) = some (r1, r2, r3, r4) := by first | (rw [hy205]; with_reducible exact H) | (have H2_ := (Option.bind_some _ _).symm.trans H; rw [hy205]; with_reducible exact H2_) | (have H2_ := (Option.bind_some _ _).symm.trans H; with_reducible exact H2_) | with_reducible exact H | (rw [hy205]; exact H) | exact H
 have Ny205 := Aside0.mk hy205
 clear hy205
 simp only [Option.some.injEq, Prod.mk.injEq] at H
 obtain ⟨rfl, rfl, rfl, rfl⟩ := H
 have hnb43 := NB193_192.out
 have hnc43 := NB192_193.out
 have hnb44 := NB193_194.out
 have hnc44 := NB194_193.out
 obtain ⟨z45_0, z45_1, z45_2, z45_3, z45_4, y45_0, y45_1, y45_2, y45_3, y45_4⟩ := zB5 BK193
 have hnb46 := NB192_194.out
 have hnc46 := NB194_192.out
 obtain ⟨z47_0, z47_1, z47_2, y47_0, y47_1, y47_2⟩ := zB3 BK192
 go_wp2_with (first | ((with_reducible refine gate_callee (f := 133) rfl ?_); refine goesL_ (some 22) rfl rfl Try.func133 (by kernel_rfl) rfl #[.agg #[.int .i8 a1_0, .int .i8 a1_1], .int .i64 (wrap64 (a0_0)), .int .i64 (wrap64 (a0_1))] rfl (by (try simp only [List.map_toArray, List.map_cons, List.map_nil]); first | done | rfl | (simp only [List.length_drop, List.length_take]; rfl)) ?_; (with_reducible refine (spec_l01In.calls a1_0 a1_1 (wrap64 (a0_0)) (wrap64 (a0_1)) true _ A17.out).mono ?_); rintro e w48 ⟨rfl, hb⟩; refine ⟨_, rfl, ?_⟩; have n_ : _ ∧ _ ∧ _ ∧ _ := ⟨zk BK192 hb, zk BK193 hb, zk BK194 hb, zbs hb⟩; clear BK192 BK193 BK194 HB; obtain ⟨BK192, BK193, BK194, HB⟩ := n_; (try clear hb); (try clear hb2); (try clear hk); (try clear hi); obtain ⟨z49_0, z49_1, z49_2, z49_3, z49_4, y49_0, y49_1, y49_2, y49_3, y49_4⟩ := zB5 BK193) | ((with_reducible refine gate_callee (f := 111) rfl ?_); refine goesL_ (some 27) rfl rfl Try.func111 (by kernel_rfl) rfl #[.pointer (some ⟨gb192, 0, none⟩), .agg #[.int .i8 a1_0, .int .i8 a1_1]] rfl (by (try simp only [List.map_toArray, List.map_cons, List.map_nil]); first | done | rfl | (simp only [List.length_drop, List.length_take]; rfl)) ?_; (with_reducible refine (spec_l01Find.calls kj2 _ [(⟨a0_0, a0_1, l0_2⟩ : S37)] a1_0 a1_1 t198 _ ?side1 A19.out).mono ?_); (case side1 => refine ro_of_blk (T := 37) (cs := #[.int .i8 a0_0, .int .i8 a0_1, .slice A0_2 l0_2.length c0_2]) (zh BK192).out ?_; exact k37_mk _ (⟨a0_0, a0_1, l0_2⟩ : S37) (by exact HC0_2.out) (by exact zcc HB HR0_2.out)); rintro e w50 ⟨rfl, hb⟩; refine ⟨_, rfl, ?_⟩; have n_ : _ ∧ _ ∧ _ ∧ _ := ⟨zk BK192 hb, zk BK193 hb, zk BK194 hb, zbs hb⟩; clear BK192 BK193 BK194 HB; obtain ⟨BK192, BK193, BK194, HB⟩ := n_; (try clear hb); (try clear hb2); (try clear hk); (try clear hi); obtain ⟨z51_0, z51_1, z51_2, y51_0, y51_1, y51_2⟩ := zB3 BK192) | ((with_reducible refine gate_callee (f := 131) rfl ?_); refine goesL_ (some 35) rfl rfl Try.func131 (by kernel_rfl) rfl #[.pointer (some ⟨gb192, 0, none⟩)] rfl (by (try simp only [List.map_toArray, List.map_cons, List.map_nil]); first | done | rfl | (simp only [List.length_drop, List.length_take]; rfl)) ?_; (with_reducible refine (spec_l01Copy.calls _ [(⟨a0_0, a0_1, l0_2⟩ : S37)] t199 t200 t201 _ ?side1 A41.out).mono ?_); (case side1 => refine ro_of_blk (T := 37) (cs := #[.int .i8 a0_0, .int .i8 a0_1, .slice A0_2 l0_2.length c0_2]) (zh BK192).out ?_; exact k37_mk _ (⟨a0_0, a0_1, l0_2⟩ : S37) (by exact HC0_2.out) (by exact zcc HB HR0_2.out)); rintro e w52 ⟨v202, rfl, ho0, hb⟩; refine ⟨_, rfl, ?_⟩; have n_ : _ ∧ _ ∧ _ ∧ _ ∧ _ := ⟨Aside0.mk (Kd.R_lower (Kd.R_newB ho0 (g := gb193) (o := .cells #[.int .i8 a1_0, .int .i8 a1_1, .int .i8 a1_2, .int .i8 a1_3, .int .i8 a1_4] 91 (0, 0)) (zh BK193).out) (zz HB)), zk BK192 hb, zk BK193 hb, zk BK194 hb, zbs hb⟩; clear BK192 BK193 BK194 HB; obtain ⟨HO203, BK192, BK193, BK194, HB⟩ := n_; (try clear hb); (try clear hb2); (try clear hk); (try clear hi); (try clear ho0)) | ((with_reducible refine gate_dst (N := 6) rfl ?_); refine box_event ?hg (N := 6) ?hd (cs := #[.int .i8 0, .int .i8 0, .slice none 0 0]) (t := 37) ?hr ?_; (case hd => rfl); (case hg => rfl); (case hr => first | (go_simp; done) | (go_simp; rfl)); intro gb204 hg w53 hbox hb; have n_ : _ ∧ _ ∧ _ ∧ _ ∧ _ ∧ _ ∧ _ ∧ _ ∧ _ ∧ _ ∧ _ ∧ _ ∧ _ ∧ _ := ⟨zr HO203 hb, zk BK192 hb, zk BK193 hb, zk BK194 hb, zbs hb, Aside0.mk (hbox), zg HB hg, zg HB hg, zn1 BK192 hg, zn2 BK192 hg, zn1 BK193 hg, zn2 BK193 hg, zn1 BK194 hg, zn2 BK194 hg⟩; clear HO203 BK192 BK193 BK194 HB; obtain ⟨HO203, BK192, BK193, BK194, HB, BK204, GW204, GE204, NB192_204, NB204_192, NB193_204, NB204_193, NB194_204, NB204_194⟩ := n_; clear hb hbox hg; have hnb54 := NB204_192.out; have hnc54 := NB192_204.out; have hnb55 := NB204_193.out; have hnc55 := NB193_204.out; have hnb56 := NB204_194.out; have hnc56 := NB194_204.out; obtain ⟨z57_0, z57_1, z57_2, y57_0, y57_1, y57_2⟩ := zB3 BK204; obtain ⟨Ao58, co58, eo58⟩ := Kd.R_slice HO203.out; subst eo58; obtain ⟨z59_0, z59_1, z59_2, z59_3, z59_4, y59_0, y59_1, y59_2, y59_3, y59_4⟩ := zB5 BK193) | ((with_reducible refine gate_builtin (b := .append) (xs := #[.tmp 37, .tmp 39]) rfl ?_); at_builtin; refine Kd.R_append k91 (w0 := w) w.heap.size rfl (.tmp 37) (.tmp 39) 35 91 (.agg #[(.int .i8 0), (.int .i8 0), (.int .i8 0), (.int .i8 0), (.int .i8 0)]) 5 rfl Try.underlying35 info91 rfl (by decide) (by omega) (.slice Ao58 t201.length co58) t201 (⟨(⟨a1_0, a1_1⟩ : S74), a1_2, a1_3, a1_4⟩ : S91) [.int .i8 a1_0, .int .i8 a1_1, .int .i8 a1_2, .int .i8 a1_3, .int .i8 a1_4] (fun k_ => k_ ≠ gb193) (fun _ => False) rfl (by first | (go_simp; done) | (go_simp; rfl)) ?aP (fun _ hk => hk.elim) ?aF ?aO ?aB ?aS ?aL ?_; (case aP => exact k91_mkM _ _ _ (⟨(⟨a1_0, a1_1⟩ : S74), a1_2, a1_3, a1_4⟩ : S91)); (case aB => exact (by repeat (first | (with_reducible first | exact HB.out | apply below_alloc | apply pw_below_drewN | apply below_drew1 | refine below_set ?_ GE192.out | refine below_set ?_ GE193.out | refine below_set ?_ GE194.out | refine below_set ?_ GE204.out) | exact HB.out))); (case aF => exact (fun k_ hk => Kd.freshB (g := gb193) (o := .cells #[.int .i8 a1_0, .int .i8 a1_1, .int .i8 a1_2, .int .i8 a1_3, .int .i8 a1_4] 91 (0, 0)) (zf BK193 NB193_204).out k_ hk)); (case aO => exact (by (with_reducible repeat (first | apply Kd.R_alloc | apply Kd.R_drewN | apply Kd.R_drew)); exact Kd.R_mono (Kd.R_far (p := ⟨gb204, 2, none⟩) (Kd.R_far (p := ⟨gb204, 1, none⟩) (Kd.R_far (p := ⟨gb204, 0, none⟩) (Kd.R_types HO203.out BK204.out (by decide)) (fun _ hk => hk.2) (.int .i8 t199)) (fun _ hk => hk.2) (.int .i8 t200)) (fun _ hk => hk.2) (.slice Ao58 t201.length co58)) (fun _ hk => hk.1.2))); (case aS => exact (zz HB)); (case aL => have := LMc42.out; omega); intro v206 w60 ho hb hg hat; rw [← Ny205.out] at ho; have n_ : _ ∧ _ ∧ _ ∧ _ ∧ _ ∧ _ := ⟨Aside0.mk (blk_grown (g := gb192) (o := .cells #[.int .i8 a0_0, .int .i8 a0_1, .slice A0_2 l0_2.length c0_2] 37 (0, 0)) (zf BK192 NB192_204).out hg (Kd.R_ne HO203.out BK192.out (by decide))), Aside0.mk (blk_grown (g := gb193) (o := .cells #[.int .i8 a1_0, .int .i8 a1_1, .int .i8 a1_2, .int .i8 a1_3, .int .i8 a1_4] 91 (0, 0)) (zf BK193 NB193_204).out hg (Kd.R_away HO203.out (fun _ hk => hk.2))), Aside0.mk (blk_grown (g := gb194) (o := .cells #[.int .i8 0, .int .i8 0, .slice none 0 0] 37 (0, 0)) (zf BK194 NB194_204).out hg (Kd.R_ne HO203.out BK194.out (by decide))), Aside0.mk (blk_grown (g := gb204) (o := .cells #[.int .i8 t199, .int .i8 t200, .slice Ao58 t201.length co58] 37 (0, 0)) (by (with_reducible repeat (first | refine blk_drewN ?_ _ | refine blk_drew ?_ | refine blk_alloc ?_ _)); refine blk_put (cs := #[.int .i8 t199, .int .i8 t200, .slice none 0 0]) ?_ 2 _ rfl; (with_reducible repeat (first | refine blk_drewN ?_ _ | refine blk_drew ?_ | refine blk_alloc ?_ _)); refine blk_put (cs := #[.int .i8 t199, .int .i8 0, .slice none 0 0]) ?_ 1 _ rfl; (with_reducible repeat (first | refine blk_drewN ?_ _ | refine blk_drew ?_ | refine blk_alloc ?_ _)); refine blk_put (cs := #[.int .i8 0, .int .i8 0, .slice none 0 0]) ?_ 0 _ rfl; (with_reducible repeat (first | refine blk_drewN ?_ _ | refine blk_drew ?_ | refine blk_alloc ?_ _)); exact BK204.out) hg (Kd.R_ne HO203.out BK204.out (by decide))), Aside0.mk (hb), Aside0.mk (ho)⟩; clear BK192 BK193 BK194 BK204 HB HO203; obtain ⟨BK192, BK193, BK194, BK204, HB, HO207⟩ := n_; clear ho hb hg hat; obtain ⟨Ao61, co61, eo61⟩ := Kd.R_slice HO207.out; subst eo61; obtain ⟨z62_0, z62_1, z62_2, y62_0, y62_1, y62_2⟩ := zB3 BK204; obtain ⟨z63_0, z63_1, z63_2, y63_0, y63_1, y63_2⟩ := zB3 BK194))
 refine bodyPost_ret (results_ct rfl _ _ gb194 37 #[.int .i8 t199, .int .i8 t200, .slice Ao61 y205.length co61] (0, 0) _ rfl (by (with_reducible repeat (first | refine blk_drewN ?_ _ | refine blk_drew ?_ | refine blk_alloc ?_ _)); refine blk_put (cs := #[.int .i8 t199, .int .i8 t200, .slice none 0 0]) ?_ 2 _ rfl; (with_reducible repeat (first | refine blk_drewN ?_ _ | refine blk_drew ?_ | refine blk_alloc ?_ _)); refine blk_put (cs := #[.int .i8 t199, .int .i8 0, .slice none 0 0]) ?_ 1 _ rfl; (with_reducible repeat (first | refine blk_drewN ?_ _ | refine blk_drew ?_ | refine blk_alloc ?_ _)); refine blk_put (cs := #[.int .i8 0, .int .i8 0, .slice none 0 0]) ?_ 0 _ rfl; (with_reducible repeat (first | refine blk_drewN ?_ _ | refine blk_drew ?_ | refine blk_alloc ?_ _)); refine blk_far ?_ NB194_204.out _; (with_reducible repeat (first | refine blk_drewN ?_ _ | refine blk_drew ?_ | refine blk_alloc ?_ _)); exact BK194.out) Try.underlying37 rfl (by kernel_rfl)) rfl ?_
 exact ⟨_, by first | rfl | (simp [errW_none, errW_some] <;> rfl) | (simp [*, errW_none, errW_some] <;> rfl), by (with_reducible repeat (first | apply Kd.R_alloc | apply Kd.R_drewN | apply Kd.R_drew)); exact Kd.R_mono (Kd.R_far (p := ⟨gb194, 2, none⟩) (Kd.R_far (p := ⟨gb194, 1, none⟩) (Kd.R_far (p := ⟨gb194, 0, none⟩) (Kd.R_far (p := ⟨gb204, 2, none⟩) (Kd.R_types (Kd.R_types HO207.out BK204.out (by decide)) BK194.out (by decide)) (fun _ hk => hk.1.2) (.slice Ao61 y205.length co61)) (fun _ hk => hk.2) (.int .i8 t199)) (fun _ hk => hk.2) (.int .i8 t200)) (fun _ hk => hk.2) (.slice Ao61 y205.length co61)) (fun _ hk => trivial), by repeat (first | (with_reducible first | exact HB.out | apply below_alloc | apply pw_below_drewN | apply below_drew1 | refine below_set ?_ GE192.out | refine below_set ?_ GE193.out | refine below_set ?_ GE194.out | refine below_set ?_ GE204.out) | exact HB.out)⟩
/-! ### impl_in: function 98 -/
def impl_in.f (a0 : Int) (a1 : Int) (a2 : Int) : Option (Bool) := if a0 ≥ a1 then (some (decide (a0 ≤ a2))) else (some false)
set_option maxHeartbeats 8000000 in
set_option maxRecDepth 100000 in
theorem impl_in.calls (a0 : Int) (a1 : Int) (a2 : Int) (r : Bool) (w : World) (h : impl_in.f a0 a1 a2 = some r) :
    Calls Try.prog 98 #[.int .i64 a0, .int .i64 a1, .int .i64 a2] w fun e w' => e = .returned (.bool r) ∧ Drawn0 w w' := by
 have H : (if a0 ≥ a1 then (some (decide (a0 ≤ a2))) else (some false)) = some r := h
 clear h
 by_cases c4 : a0 ≥ a1
 ·rw [if_pos c4] at H
  have c4b0 : decide (a1 ≤ a0) = true := decide_eq_true c4
  clear c4
  obtain rfl := Option.some.inj H
  go_enter Try.func98, Try.ntmps98
  go_wp2
  go_ret
  exact ⟨by first | rfl | (simp; done) | (simp [*]; done) | (exact congrArg (Value.int .i64) (wrap_eq (by omega))), by repeat (first | exact Drawn0.refl _ | apply Drawn0.step)⟩
 rw [if_neg c4] at H
 have c4b0 : decide (a1 ≤ a0) = false := decide_eq_false c4
 clear c4
 obtain rfl := Option.some.inj H
 go_enter Try.func98, Try.ntmps98
 go_wp2
 go_ret
 exact ⟨by first | rfl | (simp; done) | (simp [*]; done) | (exact congrArg (Value.int .i64) (wrap_eq (by omega))), by repeat (first | exact Drawn0.refl _ | apply Drawn0.step)⟩
/-! ### impl_Cell_placed: function 164 -/
def impl_Cell_placed.f (a0_0 : Int) (a0_1 : Int) : Option (Bool) := (impl_in.f (wrap64 (a0_0)) 0 23).bind fun t209 => (if t209 = true then ((impl_in.f (wrap64 (a0_1)) 0 23).bind fun t210 => (some t210)) else (some false))
set_option maxHeartbeats 8000000 in
set_option maxRecDepth 100000 in
theorem impl_Cell_placed.calls (a0_0 : Int) (a0_1 : Int) (r : Bool) (w : World) (h : impl_Cell_placed.f a0_0 a0_1 = some r) :
    Calls Try.prog 164 #[.agg #[.int .i8 a0_0, .int .i8 a0_1]] w fun e w' => e = .returned (.bool r) ∧ Below w.heap.size w w' := by
 have hu74 := Try.underlying74
 have HB := Aside0.mk (Below.refl w.heap.size w)
 have H : ((impl_in.f (wrap64 (a0_0)) 0 23).bind fun t209 => (if t209 = true then ((impl_in.f (wrap64 (a0_1)) 0 23).bind fun t210 => (some t210)) else (some false))) = some r := h
 clear h
 replace H := Option.bind_eq_some_iff.mp H
 obtain ⟨t209, A20, H⟩ := H
 replace H : (if t209 = true then ((impl_in.f (wrap64 (a0_1)) 0 23).bind fun t210 => (some t210)) else (some false)) = some r := H
 have A2 := Aside0.mk A20
 clear A20
 by_cases c3 : t209 = true
 rotate_left
 ·replace c3 := Bool.eq_false_iff.mpr c3
  subst c3
  have H1 : (some false) = some r := by rw [if_neg (show ¬ (false = true) by decide)] at H; exact H
  clear H
  have H := H1
  clear H1
  obtain rfl := Option.some.inj H
  go_enter Try.func164, Try.ntmps164
  go_wp2_with (first | ((with_reducible refine gate_dst (N := 1) rfl ?_); refine box_event ?hg (N := 1) ?hd (cs := #[.int .i8 a0_0, .int .i8 a0_1]) (t := 74) ?hr ?_; (case hd => rfl); (case hg => rfl); (case hr => first | (go_simp; done) | (go_simp; rfl)); intro gb208 hg w7 hbox hb; have n_ : _ ∧ _ ∧ _ ∧ _ := ⟨zb HB hb, Aside0.mk (hbox), zg HB hg, zg HB hg⟩; clear HB; obtain ⟨HB, BK208, GW208, GE208⟩ := n_; clear hb hbox hg; obtain ⟨z8_0, z8_1, y8_0, y8_1⟩ := zB2 BK208) | ((with_reducible refine gate_callee (f := 98) rfl ?_); refine goesL_ (some 6) rfl rfl Try.func98 (by kernel_rfl) rfl #[.int .i64 (wrap64 (a0_0)), .int .i64 0, .int .i64 23] rfl (by (try simp only [List.map_toArray, List.map_cons, List.map_nil]); first | done | rfl | (simp only [List.length_drop, List.length_take]; rfl)) ?_; (with_reducible refine (impl_in.calls (wrap64 (a0_0)) 0 23 false _ A2.out).mono ?_); rintro e w' ⟨rfl, ⟨nd, rfl⟩⟩; refine ⟨_, rfl, ?_⟩))
  go_ret
  exact ⟨by first | rfl | (simp [errW_none, errW_some] <;> rfl) | (simp [*, errW_none, errW_some] <;> rfl), by repeat (first | (with_reducible first | exact HB.out | apply below_alloc | apply pw_below_drewN | apply below_drew1 | refine below_set ?_ GE208.out) | exact HB.out)⟩
 subst c3
 have H1 : ((impl_in.f (wrap64 (a0_1)) 0 23).bind fun t210 => (some t210)) = some r := by rw [if_pos rfl] at H; exact H
 clear H
 have H := H1
 clear H1
 replace H := Option.bind_eq_some_iff.mp H
 obtain ⟨t210, A40, H⟩ := H
 replace H : (some t210) = some r := H
 have A4 := Aside0.mk A40
 clear A40
 obtain rfl := Option.some.inj H
 go_enter Try.func164, Try.ntmps164
 go_wp2_with (first | ((with_reducible refine gate_dst (N := 1) rfl ?_); refine box_event ?hg (N := 1) ?hd (cs := #[.int .i8 a0_0, .int .i8 a0_1]) (t := 74) ?hr ?_; (case hd => rfl); (case hg => rfl); (case hr => first | (go_simp; done) | (go_simp; rfl)); intro gb208 hg w5 hbox hb; have n_ : _ ∧ _ ∧ _ ∧ _ := ⟨zb HB hb, Aside0.mk (hbox), zg HB hg, zg HB hg⟩; clear HB; obtain ⟨HB, BK208, GW208, GE208⟩ := n_; clear hb hbox hg; obtain ⟨z6_0, z6_1, y6_0, y6_1⟩ := zB2 BK208) | ((with_reducible refine gate_callee (f := 98) rfl ?_); refine goesL_ (some 6) rfl rfl Try.func98 (by kernel_rfl) rfl #[.int .i64 (wrap64 (a0_0)), .int .i64 0, .int .i64 23] rfl (by (try simp only [List.map_toArray, List.map_cons, List.map_nil]); first | done | rfl | (simp only [List.length_drop, List.length_take]; rfl)) ?_; (with_reducible refine (impl_in.calls (wrap64 (a0_0)) 0 23 true _ A2.out).mono ?_); rintro e w' ⟨rfl, ⟨nd, rfl⟩⟩; refine ⟨_, rfl, ?_⟩) | (go_at_call 98; (with_reducible refine (impl_in.calls (wrap64 (a0_1)) 0 23 t210 _ A4.out).mono ?_); rintro e w' ⟨rfl, ⟨nd, rfl⟩⟩))
 go_ret
 exact ⟨by first | rfl | (simp [errW_none, errW_some] <;> rfl) | (simp [*, errW_none, errW_some] <;> rfl), by repeat (first | (with_reducible first | exact HB.out | apply below_alloc | apply pw_below_drewN | apply below_drew1 | refine below_set ?_ GE208.out) | exact HB.out)⟩
/-! ### impl_ValidPiece: function 108 -/
def impl_ValidPiece.f (a0_0 : Int) (a0_1 : Int) (a0_2 : Int) (a0_3 : Int) (a0_4 : Int) : Option (Bool) := (impl_in.f (wrap64 (a0_2)) 0 5).bind fun t212 => (if t212 = true then ((impl_in.f (wrap64 (a0_3)) 0 3).bind fun t213 => (if t213 = true then ((impl_in.f (wrap64 (a0_4)) 1 9).bind fun t214 => (if t214 = true then ((impl_Cell_placed.f a0_0 a0_1).bind fun t215 => (some t215)) else (some false))) else (some false))) else (some false))
set_option maxHeartbeats 8000000 in
set_option maxRecDepth 100000 in
theorem impl_ValidPiece.calls (a0_0 : Int) (a0_1 : Int) (a0_2 : Int) (a0_3 : Int) (a0_4 : Int) (r : Bool) (w : World) (h : impl_ValidPiece.f a0_0 a0_1 a0_2 a0_3 a0_4 = some r) :
    Calls Try.prog 108 #[.agg #[.int .i8 a0_0, .int .i8 a0_1, .int .i8 a0_2, .int .i8 a0_3, .int .i8 a0_4]] w fun e w' => e = .returned (.bool r) ∧ Below w.heap.size w w' := by
 have hu91 := Try.underlying91
 have hu74 := Try.underlying74
 have HB := Aside0.mk (Below.refl w.heap.size w)
 have H : ((impl_in.f (wrap64 (a0_2)) 0 5).bind fun t212 => (if t212 = true then ((impl_in.f (wrap64 (a0_3)) 0 3).bind fun t213 => (if t213 = true then ((impl_in.f (wrap64 (a0_4)) 1 9).bind fun t214 => (if t214 = true then ((impl_Cell_placed.f a0_0 a0_1).bind fun t215 => (some t215)) else (some false))) else (some false))) else (some false))) = some r := h
 clear h
 replace H := Option.bind_eq_some_iff.mp H
 obtain ⟨t212, A20, H⟩ := H
 replace H : (if t212 = true then ((impl_in.f (wrap64 (a0_3)) 0 3).bind fun t213 => (if t213 = true then ((impl_in.f (wrap64 (a0_4)) 1 9).bind fun t214 => (if t214 = true then ((impl_Cell_placed.f a0_0 a0_1).bind fun t215 => (some t215)) else (some false))) else (some false))) else (some false)) = some r := H
 have A2 := Aside0.mk A20
 clear A20
 by_cases c3 : t212 = true
 rotate_left
 ·replace c3 := Bool.eq_false_iff.mpr c3
  subst c3
  have H1 : (some false) = some r := by rw [if_neg (show ¬ (false = true) by decide)] at H; exact H
  clear H
  have H := H1
  clear H1
  obtain rfl := Option.some.inj H
  go_enter Try.func108, Try.ntmps108
  go_wp2_with (first | ((with_reducible refine gate_dst (N := 1) rfl ?_); refine box_event ?hg (N := 1) ?hd (cs := #[.int .i8 a0_0, .int .i8 a0_1, .int .i8 a0_2, .int .i8 a0_3, .int .i8 a0_4]) (t := 91) ?hr ?_; (case hd => rfl); (case hg => rfl); (case hr => first | (go_simp; done) | (go_simp; rfl)); intro gb211 hg w16 hbox hb; have n_ : _ ∧ _ ∧ _ ∧ _ := ⟨zb HB hb, Aside0.mk (hbox), zg HB hg, zg HB hg⟩; clear HB; obtain ⟨HB, BK211, GW211, GE211⟩ := n_; clear hb hbox hg; obtain ⟨z17_0, z17_1, z17_2, z17_3, z17_4, y17_0, y17_1, y17_2, y17_3, y17_4⟩ := zB5 BK211) | ((with_reducible refine gate_callee (f := 98) rfl ?_); refine goesL_ (some 6) rfl rfl Try.func98 (by kernel_rfl) rfl #[.int .i64 (wrap64 (a0_2)), .int .i64 0, .int .i64 5] rfl (by (try simp only [List.map_toArray, List.map_cons, List.map_nil]); first | done | rfl | (simp only [List.length_drop, List.length_take]; rfl)) ?_; (with_reducible refine (impl_in.calls (wrap64 (a0_2)) 0 5 false _ A2.out).mono ?_); rintro e w' ⟨rfl, ⟨nd, rfl⟩⟩; refine ⟨_, rfl, ?_⟩))
  go_ret
  exact ⟨by first | rfl | (simp [errW_none, errW_some] <;> rfl) | (simp [*, errW_none, errW_some] <;> rfl), by repeat (first | (with_reducible first | exact HB.out | apply below_alloc | apply pw_below_drewN | apply below_drew1 | refine below_set ?_ GE211.out) | exact HB.out)⟩
 subst c3
 have H1 : ((impl_in.f (wrap64 (a0_3)) 0 3).bind fun t213 => (if t213 = true then ((impl_in.f (wrap64 (a0_4)) 1 9).bind fun t214 => (if t214 = true then ((impl_Cell_placed.f a0_0 a0_1).bind fun t215 => (some t215)) else (some false))) else (some false))) = some r := by rw [if_pos rfl] at H; exact H
 clear H
 have H := H1
 clear H1
 replace H := Option.bind_eq_some_iff.mp H
 obtain ⟨t213, A40, H⟩ := H
 replace H : (if t213 = true then ((impl_in.f (wrap64 (a0_4)) 1 9).bind fun t214 => (if t214 = true then ((impl_Cell_placed.f a0_0 a0_1).bind fun t215 => (some t215)) else (some false))) else (some false)) = some r := H
 have A4 := Aside0.mk A40
 clear A40
 by_cases c5 : t213 = true
 rotate_left
 ·replace c5 := Bool.eq_false_iff.mpr c5
  subst c5
  have H1 : (some false) = some r := by rw [if_neg (show ¬ (false = true) by decide)] at H; exact H
  clear H
  have H := H1
  clear H1
  obtain rfl := Option.some.inj H
  go_enter Try.func108, Try.ntmps108
  go_wp2_with (first | ((with_reducible refine gate_dst (N := 1) rfl ?_); refine box_event ?hg (N := 1) ?hd (cs := #[.int .i8 a0_0, .int .i8 a0_1, .int .i8 a0_2, .int .i8 a0_3, .int .i8 a0_4]) (t := 91) ?hr ?_; (case hd => rfl); (case hg => rfl); (case hr => first | (go_simp; done) | (go_simp; rfl)); intro gb211 hg w14 hbox hb; have n_ : _ ∧ _ ∧ _ ∧ _ := ⟨zb HB hb, Aside0.mk (hbox), zg HB hg, zg HB hg⟩; clear HB; obtain ⟨HB, BK211, GW211, GE211⟩ := n_; clear hb hbox hg; obtain ⟨z15_0, z15_1, z15_2, z15_3, z15_4, y15_0, y15_1, y15_2, y15_3, y15_4⟩ := zB5 BK211) | ((with_reducible refine gate_callee (f := 98) rfl ?_); refine goesL_ (some 6) rfl rfl Try.func98 (by kernel_rfl) rfl #[.int .i64 (wrap64 (a0_2)), .int .i64 0, .int .i64 5] rfl (by (try simp only [List.map_toArray, List.map_cons, List.map_nil]); first | done | rfl | (simp only [List.length_drop, List.length_take]; rfl)) ?_; (with_reducible refine (impl_in.calls (wrap64 (a0_2)) 0 5 true _ A2.out).mono ?_); rintro e w' ⟨rfl, ⟨nd, rfl⟩⟩; refine ⟨_, rfl, ?_⟩) | (go_at_call 98; (with_reducible refine (impl_in.calls (wrap64 (a0_3)) 0 3 false _ A4.out).mono ?_); rintro e w' ⟨rfl, ⟨nd, rfl⟩⟩))
  go_ret
  exact ⟨by first | rfl | (simp [errW_none, errW_some] <;> rfl) | (simp [*, errW_none, errW_some] <;> rfl), by repeat (first | (with_reducible first | exact HB.out | apply below_alloc | apply pw_below_drewN | apply below_drew1 | refine below_set ?_ GE211.out) | exact HB.out)⟩
 subst c5
 have H1 : ((impl_in.f (wrap64 (a0_4)) 1 9).bind fun t214 => (if t214 = true then ((impl_Cell_placed.f a0_0 a0_1).bind fun t215 => (some t215)) else (some false))) = some r := by rw [if_pos rfl] at H; exact H
 clear H
 have H := H1
 clear H1
 replace H := Option.bind_eq_some_iff.mp H
 obtain ⟨t214, A60, H⟩ := H
 replace H : (if t214 = true then ((impl_Cell_placed.f a0_0 a0_1).bind fun t215 => (some t215)) else (some false)) = some r := H
 have A6 := Aside0.mk A60
 clear A60
 by_cases c7 : t214 = true
 rotate_left
 ·replace c7 := Bool.eq_false_iff.mpr c7
  subst c7
  have H1 : (some false) = some r := by rw [if_neg (show ¬ (false = true) by decide)] at H; exact H
  clear H
  have H := H1
  clear H1
  obtain rfl := Option.some.inj H
  go_enter Try.func108, Try.ntmps108
  go_wp2_with (first | ((with_reducible refine gate_dst (N := 1) rfl ?_); refine box_event ?hg (N := 1) ?hd (cs := #[.int .i8 a0_0, .int .i8 a0_1, .int .i8 a0_2, .int .i8 a0_3, .int .i8 a0_4]) (t := 91) ?hr ?_; (case hd => rfl); (case hg => rfl); (case hr => first | (go_simp; done) | (go_simp; rfl)); intro gb211 hg w12 hbox hb; have n_ : _ ∧ _ ∧ _ ∧ _ := ⟨zb HB hb, Aside0.mk (hbox), zg HB hg, zg HB hg⟩; clear HB; obtain ⟨HB, BK211, GW211, GE211⟩ := n_; clear hb hbox hg; obtain ⟨z13_0, z13_1, z13_2, z13_3, z13_4, y13_0, y13_1, y13_2, y13_3, y13_4⟩ := zB5 BK211) | ((with_reducible refine gate_callee (f := 98) rfl ?_); refine goesL_ (some 6) rfl rfl Try.func98 (by kernel_rfl) rfl #[.int .i64 (wrap64 (a0_2)), .int .i64 0, .int .i64 5] rfl (by (try simp only [List.map_toArray, List.map_cons, List.map_nil]); first | done | rfl | (simp only [List.length_drop, List.length_take]; rfl)) ?_; (with_reducible refine (impl_in.calls (wrap64 (a0_2)) 0 5 true _ A2.out).mono ?_); rintro e w' ⟨rfl, ⟨nd, rfl⟩⟩; refine ⟨_, rfl, ?_⟩) | (go_at_call 98; (with_reducible refine (impl_in.calls (wrap64 (a0_3)) 0 3 true _ A4.out).mono ?_); rintro e w' ⟨rfl, ⟨nd, rfl⟩⟩) | (go_at_call 98; (with_reducible refine (impl_in.calls (wrap64 (a0_4)) 1 9 false _ A6.out).mono ?_); rintro e w' ⟨rfl, ⟨nd, rfl⟩⟩))
  go_ret
  exact ⟨by first | rfl | (simp [errW_none, errW_some] <;> rfl) | (simp [*, errW_none, errW_some] <;> rfl), by repeat (first | (with_reducible first | exact HB.out | apply below_alloc | apply pw_below_drewN | apply below_drew1 | refine below_set ?_ GE211.out) | exact HB.out)⟩
 subst c7
 have H1 : ((impl_Cell_placed.f a0_0 a0_1).bind fun t215 => (some t215)) = some r := by rw [if_pos rfl] at H; exact H
 clear H
 have H := H1
 clear H1
 replace H := Option.bind_eq_some_iff.mp H
 obtain ⟨t215, A80, H⟩ := H
 replace H : (some t215) = some r := H
 have A8 := Aside0.mk A80
 clear A80
 obtain rfl := Option.some.inj H
 go_enter Try.func108, Try.ntmps108
 go_wp2_with (first | ((with_reducible refine gate_dst (N := 1) rfl ?_); refine box_event ?hg (N := 1) ?hd (cs := #[.int .i8 a0_0, .int .i8 a0_1, .int .i8 a0_2, .int .i8 a0_3, .int .i8 a0_4]) (t := 91) ?hr ?_; (case hd => rfl); (case hg => rfl); (case hr => first | (go_simp; done) | (go_simp; rfl)); intro gb211 hg w9 hbox hb; have n_ : _ ∧ _ ∧ _ ∧ _ := ⟨zb HB hb, Aside0.mk (hbox), zg HB hg, zg HB hg⟩; clear HB; obtain ⟨HB, BK211, GW211, GE211⟩ := n_; clear hb hbox hg; obtain ⟨z10_0, z10_1, z10_2, z10_3, z10_4, y10_0, y10_1, y10_2, y10_3, y10_4⟩ := zB5 BK211) | ((with_reducible refine gate_callee (f := 98) rfl ?_); refine goesL_ (some 6) rfl rfl Try.func98 (by kernel_rfl) rfl #[.int .i64 (wrap64 (a0_2)), .int .i64 0, .int .i64 5] rfl (by (try simp only [List.map_toArray, List.map_cons, List.map_nil]); first | done | rfl | (simp only [List.length_drop, List.length_take]; rfl)) ?_; (with_reducible refine (impl_in.calls (wrap64 (a0_2)) 0 5 true _ A2.out).mono ?_); rintro e w' ⟨rfl, ⟨nd, rfl⟩⟩; refine ⟨_, rfl, ?_⟩) | (go_at_call 98; (with_reducible refine (impl_in.calls (wrap64 (a0_3)) 0 3 true _ A4.out).mono ?_); rintro e w' ⟨rfl, ⟨nd, rfl⟩⟩) | (go_at_call 98; (with_reducible refine (impl_in.calls (wrap64 (a0_4)) 1 9 true _ A6.out).mono ?_); rintro e w' ⟨rfl, ⟨nd, rfl⟩⟩) | (go_at_call 164; (with_reducible refine (impl_Cell_placed.calls a0_0 a0_1 t215 _ A8.out).mono ?_); rintro e w11 ⟨rfl, hb⟩; have n_ : _ ∧ _ := ⟨zk BK211 hb, zbs hb⟩; clear BK211 HB; obtain ⟨BK211, HB⟩ := n_; (try clear hb); (try clear hb2); (try clear hk); (try clear hi)))
 go_ret
 exact ⟨by first | rfl | (simp [errW_none, errW_some] <;> rfl) | (simp [*, errW_none, errW_some] <;> rfl), by repeat (first | (with_reducible first | exact HB.out | apply below_alloc | apply pw_below_drewN | apply below_drew1 | refine below_set ?_ GE211.out) | exact HB.out)⟩
/-! ### impl_Board_has: function 109 -/
def impl_Board_has.f (l0 : List (S37)) (a1_0 : Int) (a1_1 : Int) : Option (Bool) := if a1_0 ≥ 0 then (if 0 < (l0.length : Int) then (if a1_0 < ((rd_T37 l0 0).f0) then (if a1_1 ≥ 0 then (some (decide (a1_1 < ((rd_T37 l0 0).f1)))) else (some false)) else (some false)) else (none)) else (some false)
set_option maxHeartbeats 8000000 in
set_option maxRecDepth 100000 in
theorem impl_Board_has.calls (adp0 : Addr) (l0 : List (S37)) (a1_0 : Int) (a1_1 : Int) (r : Bool) (w : World) (hr0 : Kd.C k37 w (some adp0) l0.length l0) (h : impl_Board_has.f l0 a1_0 a1_1 = some r) :
    Calls Try.prog 109 #[.pointer (some adp0), .agg #[.int .i8 a1_0, .int .i8 a1_1]] w fun e w' => e = .returned (.bool r) ∧ Below w.heap.size w w' := by
 have hu74 := Try.underlying74
 have HR0 := Aside0.mk hr0
 clear hr0
 have HB := Aside0.mk (Below.refl w.heap.size w)
 have H : (if a1_0 ≥ 0 then (if 0 < (l0.length : Int) then (if a1_0 < ((rd_T37 l0 0).f0) then (if a1_1 ≥ 0 then (some (decide (a1_1 < ((rd_T37 l0 0).f1)))) else (some false)) else (some false)) else (none)) else (some false)) = some r := h
 clear h
 by_cases c3 : a1_0 ≥ 0
 rotate_left
 ·rw [if_neg c3] at H
  have c3b0 : decide (0 ≤ a1_0) = false := decide_eq_false c3
  clear c3
  obtain rfl := Option.some.inj H
  go_enter Try.func109, Try.ntmps109
  go_wp2_with (first | ((with_reducible refine gate_dst (N := 3) rfl ?_); refine box_event ?hg (N := 3) ?hd (cs := #[.int .i8 a1_0, .int .i8 a1_1]) (t := 74) ?hr ?_; (case hd => rfl); (case hg => rfl); (case hr => first | (go_simp; done) | (go_simp; rfl)); intro gb216 hg w13 hbox hb; have n_ : _ ∧ _ ∧ _ ∧ _ := ⟨zb HB hb, Aside0.mk (hbox), zg HB hg, zg HB hg⟩; clear HB; obtain ⟨HB, BK216, GW216, GE216⟩ := n_; clear hb hbox hg; obtain ⟨z14_0, z14_1, y14_0, y14_1⟩ := zB2 BK216) | go_quiet (fail))
  go_ret
  exact ⟨by first | rfl | (simp [errW_none, errW_some] <;> rfl) | (simp [*, errW_none, errW_some] <;> rfl), by repeat (first | (with_reducible first | exact HB.out | apply below_alloc | apply pw_below_drewN | apply below_drew1 | refine below_set ?_ GE216.out) | exact HB.out)⟩
 rw [if_pos c3] at H
 have c3b0 : decide (0 ≤ a1_0) = true := decide_eq_true c3
 clear c3
 by_cases c4 : 0 < (l0.length : Int)
 rotate_left
 ·rw [if_neg c4] at H
  exact absurd H (by simp)
 rw [if_pos c4] at H
 have c4b0 : decide (0 < (l0.length : Int)) = true := decide_eq_true c4
 have c4b1 : decide (0 < l0.length) = true := decide_eq_true (by omega)
 clear c4
 by_cases c5 : a1_0 < ((rd_T37 l0 0).f0)
 rotate_left
 ·rw [if_neg c5] at H
  have c5b0 : decide (a1_0 < ((rd_T37 l0 0).f0)) = false := decide_eq_false c5
  clear c5
  obtain rfl := Option.some.inj H
  go_enter Try.func109, Try.ntmps109
  go_wp2_with (first | ((with_reducible refine gate_dst (N := 3) rfl ?_); refine box_event ?hg (N := 3) ?hd (cs := #[.int .i8 a1_0, .int .i8 a1_1]) (t := 74) ?hr ?_; (case hd => rfl); (case hg => rfl); (case hr => first | (go_simp; done) | (go_simp; rfl)); intro gb216 hg w11 hbox hb; have n_ : _ ∧ _ ∧ _ ∧ _ := ⟨zb HB hb, Aside0.mk (hbox), zg HB hg, zg HB hg⟩; clear HB; obtain ⟨HB, BK216, GW216, GE216⟩ := n_; clear hb hbox hg; obtain ⟨z12_0, z12_1, y12_0, y12_1⟩ := zB2 BK216; have p217 : 0 ≤ (0 : Int) := (by omega); have q217 : 0 < (l0.length : Int) := of_decide_eq_true (by first | (with_reducible assumption) | assumption); obtain ⟨ad217, A217_2, c217_2, e217, hx217_0, hx217_1, hx217_2, hl217_2, hi217_2⟩ := at_T37 HR0.out 0 p217 q217; obtain rfl : adp0 = ad217 := (by injection e217); have qi217 : (0 < l0.length) = True := eq_true (by omega); (try rw [show ((0 : Int)).toNat = 0 from rfl] at hx217_0); (try rw [show 0 * 3 = 0 from rfl] at hx217_0); (try rw [Addr.add_zero'] at hx217_0); (try rw [show ((0 : Int)).toNat = 0 from rfl] at hx217_1); (try rw [show 0 * 3 = 0 from rfl] at hx217_1); (try rw [Addr.add_zero'] at hx217_1); (try rw [show ((0 : Int)).toNat = 0 from rfl] at hx217_2); (try rw [show 0 * 3 = 0 from rfl] at hx217_2); (try rw [Addr.add_zero'] at hx217_2); replace hx217_0 := zc HB hx217_0; replace hx217_1 := zc HB hx217_1; replace hx217_2 := zc HB hx217_2; have HR217_2 := Aside0.mk hi217_2; have HC217_2 := Aside0.mk hl217_2; clear hi217_2 hl217_2; replace p217 := eq_true p217; replace q217 := eq_true q217) | go_quiet (fail))
  go_ret
  exact ⟨by first | rfl | (simp [errW_none, errW_some] <;> rfl) | (simp [*, errW_none, errW_some] <;> rfl), by repeat (first | (with_reducible first | exact HB.out | apply below_alloc | apply pw_below_drewN | apply below_drew1 | refine below_set ?_ GE216.out) | exact HB.out)⟩
 rw [if_pos c5] at H
 have c5b0 : decide (a1_0 < ((rd_T37 l0 0).f0)) = true := decide_eq_true c5
 clear c5
 by_cases c6 : a1_1 ≥ 0
 rotate_left
 ·rw [if_neg c6] at H
  have c6b0 : decide (0 ≤ a1_1) = false := decide_eq_false c6
  clear c6
  obtain rfl := Option.some.inj H
  go_enter Try.func109, Try.ntmps109
  go_wp2_with (first | ((with_reducible refine gate_dst (N := 3) rfl ?_); refine box_event ?hg (N := 3) ?hd (cs := #[.int .i8 a1_0, .int .i8 a1_1]) (t := 74) ?hr ?_; (case hd => rfl); (case hg => rfl); (case hr => first | (go_simp; done) | (go_simp; rfl)); intro gb216 hg w9 hbox hb; have n_ : _ ∧ _ ∧ _ ∧ _ := ⟨zb HB hb, Aside0.mk (hbox), zg HB hg, zg HB hg⟩; clear HB; obtain ⟨HB, BK216, GW216, GE216⟩ := n_; clear hb hbox hg; obtain ⟨z10_0, z10_1, y10_0, y10_1⟩ := zB2 BK216; have p217 : 0 ≤ (0 : Int) := (by omega); have q217 : 0 < (l0.length : Int) := of_decide_eq_true (by first | (with_reducible assumption) | assumption); obtain ⟨ad217, A217_2, c217_2, e217, hx217_0, hx217_1, hx217_2, hl217_2, hi217_2⟩ := at_T37 HR0.out 0 p217 q217; obtain rfl : adp0 = ad217 := (by injection e217); have qi217 : (0 < l0.length) = True := eq_true (by omega); (try rw [show ((0 : Int)).toNat = 0 from rfl] at hx217_0); (try rw [show 0 * 3 = 0 from rfl] at hx217_0); (try rw [Addr.add_zero'] at hx217_0); (try rw [show ((0 : Int)).toNat = 0 from rfl] at hx217_1); (try rw [show 0 * 3 = 0 from rfl] at hx217_1); (try rw [Addr.add_zero'] at hx217_1); (try rw [show ((0 : Int)).toNat = 0 from rfl] at hx217_2); (try rw [show 0 * 3 = 0 from rfl] at hx217_2); (try rw [Addr.add_zero'] at hx217_2); replace hx217_0 := zc HB hx217_0; replace hx217_1 := zc HB hx217_1; replace hx217_2 := zc HB hx217_2; have HR217_2 := Aside0.mk hi217_2; have HC217_2 := Aside0.mk hl217_2; clear hi217_2 hl217_2; replace p217 := eq_true p217; replace q217 := eq_true q217) | go_quiet (fail))
  go_ret
  exact ⟨by first | rfl | (simp [errW_none, errW_some] <;> rfl) | (simp [*, errW_none, errW_some] <;> rfl), by repeat (first | (with_reducible first | exact HB.out | apply below_alloc | apply pw_below_drewN | apply below_drew1 | refine below_set ?_ GE216.out) | exact HB.out)⟩
 rw [if_pos c6] at H
 have c6b0 : decide (0 ≤ a1_1) = true := decide_eq_true c6
 clear c6
 obtain rfl := Option.some.inj H
 go_enter Try.func109, Try.ntmps109
 go_wp2_with (first | ((with_reducible refine gate_dst (N := 3) rfl ?_); refine box_event ?hg (N := 3) ?hd (cs := #[.int .i8 a1_0, .int .i8 a1_1]) (t := 74) ?hr ?_; (case hd => rfl); (case hg => rfl); (case hr => first | (go_simp; done) | (go_simp; rfl)); intro gb216 hg w7 hbox hb; have n_ : _ ∧ _ ∧ _ ∧ _ := ⟨zb HB hb, Aside0.mk (hbox), zg HB hg, zg HB hg⟩; clear HB; obtain ⟨HB, BK216, GW216, GE216⟩ := n_; clear hb hbox hg; obtain ⟨z8_0, z8_1, y8_0, y8_1⟩ := zB2 BK216; have p217 : 0 ≤ (0 : Int) := (by omega); have q217 : 0 < (l0.length : Int) := of_decide_eq_true (by first | (with_reducible assumption) | assumption); obtain ⟨ad217, A217_2, c217_2, e217, hx217_0, hx217_1, hx217_2, hl217_2, hi217_2⟩ := at_T37 HR0.out 0 p217 q217; obtain rfl : adp0 = ad217 := (by injection e217); have qi217 : (0 < l0.length) = True := eq_true (by omega); (try rw [show ((0 : Int)).toNat = 0 from rfl] at hx217_0); (try rw [show 0 * 3 = 0 from rfl] at hx217_0); (try rw [Addr.add_zero'] at hx217_0); (try rw [show ((0 : Int)).toNat = 0 from rfl] at hx217_1); (try rw [show 0 * 3 = 0 from rfl] at hx217_1); (try rw [Addr.add_zero'] at hx217_1); (try rw [show ((0 : Int)).toNat = 0 from rfl] at hx217_2); (try rw [show 0 * 3 = 0 from rfl] at hx217_2); (try rw [Addr.add_zero'] at hx217_2); replace hx217_0 := zc HB hx217_0; replace hx217_1 := zc HB hx217_1; replace hx217_2 := zc HB hx217_2; have HR217_2 := Aside0.mk hi217_2; have HC217_2 := Aside0.mk hl217_2; clear hi217_2 hl217_2; replace p217 := eq_true p217; replace q217 := eq_true q217; have p218 : 0 ≤ (0 : Int) := (by omega); have q218 : 0 < (l0.length : Int) := of_decide_eq_true (by first | (with_reducible assumption) | assumption); obtain ⟨ad218, A218_2, c218_2, e218, hx218_0, hx218_1, hx218_2, hl218_2, hi218_2⟩ := at_T37 HR0.out 0 p218 q218; obtain rfl : adp0 = ad218 := (by injection e218); have qi218 : (0 < l0.length) = True := eq_true (by omega); (try rw [show ((0 : Int)).toNat = 0 from rfl] at hx218_0); (try rw [show 0 * 3 = 0 from rfl] at hx218_0); (try rw [Addr.add_zero'] at hx218_0); (try rw [show ((0 : Int)).toNat = 0 from rfl] at hx218_1); (try rw [show 0 * 3 = 0 from rfl] at hx218_1); (try rw [Addr.add_zero'] at hx218_1); (try rw [show ((0 : Int)).toNat = 0 from rfl] at hx218_2); (try rw [show 0 * 3 = 0 from rfl] at hx218_2); (try rw [Addr.add_zero'] at hx218_2); replace hx218_0 := zc HB hx218_0; replace hx218_1 := zc HB hx218_1; replace hx218_2 := zc HB hx218_2; have HR218_2 := Aside0.mk hi218_2; have HC218_2 := Aside0.mk hl218_2; clear hi218_2 hl218_2; replace p218 := eq_true p218; replace q218 := eq_true q218; have ea_ := Option.some.inj (hx217_2.symm.trans hx218_2); injection ea_ with ea_ en_ ec_; subst ea_; subst ec_; clear en_) | go_quiet (fail))
 go_ret
 exact ⟨by first | rfl | (simp [errW_none, errW_some] <;> rfl) | (simp [*, errW_none, errW_some] <;> rfl), by repeat (first | (with_reducible first | exact HB.out | apply below_alloc | apply pw_below_drewN | apply below_drew1 | refine below_set ?_ GE216.out) | exact HB.out)⟩
end Go.Proofs.Ytffnfpnajkgnaaa.PFnExactPutPiece
