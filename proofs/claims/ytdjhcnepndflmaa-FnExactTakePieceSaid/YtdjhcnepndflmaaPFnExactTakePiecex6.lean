-- WRITTEN by xprint.py, a program of this session's. Not trusted: Lean checks it.
-- packed by pack.py
import Derived.Shelf.RegionOpenPlain
import Derived.Deep.RegionLaw
import Derived.Lib.SliceRun
import Derived.Test.YtdjhcnepndflmaaPFnExactTakePiecex0
import Derived.Test.YtdjhcnepndflmaaPFnExactTakePiecex5
import Derived.Test.YtdjhcnepndflmaaTFnExactTakePiecea
namespace Go.Proofs.Ytdjhcnepndflmaa.PFnExactTakePiece
open Go.RowKit Go.Proofs.YtdjhcnepndflmaaW.PrintWords Go.Proofs.YtdjhcnepndflmaaW.PrintLast Go.Proofs.YtdjhcnepndflmaaW.PrintMore Go.Proofs.YtdjhcnepndflmaaX
attribute [local go_sem] max2_int min2_int max_two min_two max_three min_three max_four min_four   -- for this text's walks alone
set_option maxRecDepth 100000
set_option linter.unusedVariables false
set_option linter.unusedSimpArgs false

def slices_IndexFunc__impl_Board_at_1.l0 : Nat → List (S62) → Int → Int → List (S34) → Option (Int)
  | 0, _, _, _, _ => none
  | k + 1, x0, x7, x8, x2000 => if x8 < x7 then (if 0 ≤ x8 then (if x8 < (x0.length : Int) then ((impl_Board_at_1.f ((rd_T62 x0 x8).f0.f0) ((rd_T62 x0 x8).f0.f1) ((rd_T62 x0 x8).f1) ((rd_T62 x0 x8).f2) ((rd_T62 x0 x8).f3) x2000).bind fun t181 => (if t181 = true then (some x8) else (slices_IndexFunc__impl_Board_at_1.l0 k x0 x7 (wrap64 (x8 + 1)) x2000))) else (none)) else (none)) else (some (-1))
def slices_IndexFunc__impl_Board_at_1.f (k : Nat) (l0 : List (S62)) (l1_0 : List (S34)) : Option (Int) := slices_IndexFunc__impl_Board_at_1.l0 k l0 (l0.length : Int) 0 l1_0
theorem slices_IndexFunc__impl_Board_at_1.mono_l : ∀ k, (∀ y0 y1 y2 y3, LeO (slices_IndexFunc__impl_Board_at_1.l0 k y0 y1 y2 y3) (slices_IndexFunc__impl_Board_at_1.l0 (k + 1) y0 y1 y2 y3))
  | 0 => fun _ _ _ _ r h => by simp [slices_IndexFunc__impl_Board_at_1.l0] at h
  | k + 1 => by
    have ih0 := slices_IndexFunc__impl_Board_at_1.mono_l k
    · intro y0 y1 y2 y3
      unfold slices_IndexFunc__impl_Board_at_1.l0
      repeat' first | (with_reducible first | apply ih0 | exact LeO.refl _ | exact LeO.none _ | refine LeO.ite ?_ ?_ | refine LeO.bind ?_ (fun _ => ?_)) | apply ih0 | exact LeO.none _ | refine LeO.ite ?_ ?_ | refine LeO.bind ?_ (fun _ => ?_)
theorem slices_IndexFunc__impl_Board_at_1.mono : ∀ a0 a1 k, LeO (slices_IndexFunc__impl_Board_at_1.f k a0 a1) (slices_IndexFunc__impl_Board_at_1.f (k + 1) a0 a1) := by
 intro a0 a1 k
 have ih0 := slices_IndexFunc__impl_Board_at_1.mono_l k
 unfold slices_IndexFunc__impl_Board_at_1.f
 repeat' first | (with_reducible first | apply ih0 | exact LeO.refl _ | exact LeO.none _ | refine LeO.ite ?_ ?_ | refine LeO.bind ?_ (fun _ => ?_)) | apply ih0 | exact LeO.none _ | refine LeO.ite ?_ ?_ | refine LeO.bind ?_ (fun _ => ?_)
set_option maxHeartbeats 8000000 in
theorem slices_IndexFunc__impl_Board_at_1.calls (k : Nat) (A0 : Option Addr) (c0 : Nat) (l0 : List (S62)) (adp1_0 : Addr) (l1_0 : List (S34)) (r : Int) (w : World) (hr0 : Kd.C k62 w A0 l0.length l0) (hc0 : l0.length ≤ c0) (hr1_0 : Kd.C k34 w (some adp1_0) l1_0.length l1_0) (h : slices_IndexFunc__impl_Board_at_1.f k l0 l1_0 = some r) :
    Calls Try.prog 50 #[.slice A0 l0.length c0, .func (.func 51) #[] #[.pointer (some adp1_0)]] w fun e w' => e = .returned (.int .i64 r) ∧ Below w.heap.size w w' := by
 have hu62 := Try.underlying62
 have HR0 := Aside0.mk hr0
 have HC0 := Aside0.mk hc0
 clear hr0 hc0
 have HR1_0 := Aside0.mk hr1_0
 clear hr1_0
 have HB := Aside0.mk (Below.refl w.heap.size w)
 have H : (slices_IndexFunc__impl_Board_at_1.l0 k l0 (l0.length : Int) 0 l1_0) = some r := h
 clear h
 have H' := Aside0.mk H
 clear H
 go_enter Try.func50, Try.ntmps50
 go_wp2
 go_loopg [8] k (fun kq v8 w' => ∃ (x8_1 : Int), v8 = .int .i64 x8_1 ∧ Aside0 (slices_IndexFunc__impl_Board_at_1.l0 kq l0 (l0.length : Int) x8_1 l1_0 = some r) ∧ Aside0 (kq ≤ k) ∧ Aside0 (Below w.heap.size w w'))
 case atStart => exact ⟨(0), zi, H', ⟨Nat.le_refl _⟩, zl HB⟩
 clear H'
 try clear p2
 obtain ⟨x8_1, rfl, HA, HK1, HB⟩ := hrel
 cases gk with
 | zero => exact absurd HA.out (by simp [slices_IndexFunc__impl_Board_at_1.l0])
 | succ k1 => ?_
 have H := HA.out
 clear HA
 simp only [slices_IndexFunc__impl_Board_at_1.l0] at H
 by_cases c3 : x8_1 < (l0.length : Int)
 rotate_left
 ·rw [if_neg c3] at H
  have c3b0 : decide (x8_1 < (l0.length : Int)) = false := decide_eq_false c3
  clear c3
  obtain rfl := Option.some.inj H
  go_wp2
  go_ret
  exact ⟨zv, zbo⟩
 rw [if_pos c3] at H
 have c3b0 : decide (x8_1 < (l0.length : Int)) = true := decide_eq_true c3
 clear c3
 by_cases c4 : 0 ≤ x8_1
 rotate_left
 ·rw [if_neg c4] at H
  exact absurd H (by simp)
 rw [if_pos c4] at H
 have c4b0 : decide (0 ≤ x8_1) = true := decide_eq_true c4
 clear c4
 by_cases c5 : x8_1 < (l0.length : Int)
 rotate_left
 ·rw [if_neg c5] at H
  exact absurd H (by simp)
 rw [if_pos c5] at H
 have c5b0 : decide (x8_1 < (l0.length : Int)) = true := decide_eq_true c5
 clear c5
 replace H := zob H
 obtain ⟨t181, A60, H⟩ := H
 replace H : (if t181 = true then (some x8_1) else (slices_IndexFunc__impl_Board_at_1.l0 k1 l0 (l0.length : Int) (wrap64 (x8_1 + 1)) l1_0)) = some r := H
 have A6 := Aside0.mk A60
 clear A60
 by_cases c7 : t181 = true
 ·subst c7
  have H1 : (some x8_1) = some r := by rw [if_pos rfl] at H; exact H
  clear H
  have H := H1
  clear H1
  obtain rfl := Option.some.inj H
  have p180 : 0 ≤ (x8_1 : Int) := of_decide_eq_true zA
  have q180 : x8_1 < (l0.length : Int) := of_decide_eq_true zA
  obtain ⟨ad180, e180, hx180_0, hx180_1, hx180_2, hx180_3, hx180_4⟩ := at_T62 HR0.out x8_1 p180 q180
  cases e180
  replace hx180_0 := zc HB hx180_0
  replace hx180_1 := zc HB hx180_1
  replace hx180_2 := zc HB hx180_2
  replace hx180_3 := zc HB hx180_3
  replace hx180_4 := zc HB hx180_4
  replace p180 := eq_true p180
  replace q180 := eq_true q180
  go_wp2_with (first | (go_at_call 51; (with_reducible refine (impl_Board_at_1.calls ((rd_T62 l0 x8_1).f0.f0) ((rd_T62 l0 x8_1).f0.f1) ((rd_T62 l0 x8_1).f1) ((rd_T62 l0 x8_1).f2) ((rd_T62 l0 x8_1).f3) _ l1_0 true _ ?side1 A6.out).mono ?_); (case side1 => exact zcc HB HR1_0.out); rintro e w8 ⟨rfl, hb⟩; have n0_ := zb HB hb; clear HB; have HB := n0_; clear n0_; (try clear hb); (try clear hb2); (try clear hk); (try clear hi)))
  go_ret
  exact ⟨zv, zbo⟩
 replace c7 := Bool.eq_false_iff.mpr c7
 subst c7
 have H1 : (slices_IndexFunc__impl_Board_at_1.l0 k1 l0 (l0.length : Int) (wrap64 (x8_1 + 1)) l1_0) = some r := by rw [if_neg (show ¬ (false = true) by decide)] at H; exact H
 clear H
 have H := H1
 clear H1
 have H' := Aside0.mk H
 clear H
 have p180 : 0 ≤ (x8_1 : Int) := of_decide_eq_true zA
 have q180 : x8_1 < (l0.length : Int) := of_decide_eq_true zA
 obtain ⟨ad180, e180, hx180_0, hx180_1, hx180_2, hx180_3, hx180_4⟩ := at_T62 HR0.out x8_1 p180 q180
 cases e180
 replace hx180_0 := zc HB hx180_0
 replace hx180_1 := zc HB hx180_1
 replace hx180_2 := zc HB hx180_2
 replace hx180_3 := zc HB hx180_3
 replace hx180_4 := zc HB hx180_4
 replace p180 := eq_true p180
 replace q180 := eq_true q180
 go_wp2_with (first | (go_at_call 51; (with_reducible refine (impl_Board_at_1.calls ((rd_T62 l0 x8_1).f0.f0) ((rd_T62 l0 x8_1).f0.f1) ((rd_T62 l0 x8_1).f1) ((rd_T62 l0 x8_1).f2) ((rd_T62 l0 x8_1).f3) _ l1_0 false _ ?side1 A6.out).mono ?_); (case side1 => exact zcc HB HR1_0.out); rintro e w9 ⟨rfl, hb⟩; have n0_ := zb HB hb; clear HB; have HB := n0_; clear n0_; (try clear hb); (try clear hb2); (try clear hk); (try clear hi)))
 go_roundg k1
 case measure => have := HK1.out; omega
 case rel => exact ⟨(wrap64 (x8_1 + 1)), zi, H', ⟨by have := HK1.out; omega⟩, zl HB⟩
def impl_Board_at.f (k : Nat) (l0 : List (S30)) (a1_0 : Int) (a1_1 : Int) : Option (Int) := if 0 < (l0.length : Int) then ((slices_IndexFunc__impl_Board_at_1.f k ((rd_T30 l0 0).f2) [(⟨a1_0, a1_1⟩ : S34)]).bind fun t184 => (some t184)) else (none)
theorem impl_Board_at.mono : ∀ a0 a1 a2 k, LeO (impl_Board_at.f k a0 a1 a2) (impl_Board_at.f (k + 1) a0 a1 a2) := by
 intro a0 a1 a2 k
 unfold impl_Board_at.f
 repeat' first | (with_reducible first | apply slices_IndexFunc__impl_Board_at_1.mono | exact LeO.refl _ | exact LeO.none _ | refine LeO.ite ?_ ?_ | refine LeO.bind ?_ (fun _ => ?_)) | apply slices_IndexFunc__impl_Board_at_1.mono | exact LeO.none _ | refine LeO.ite ?_ ?_ | refine LeO.bind ?_ (fun _ => ?_)
set_option maxHeartbeats 8000000 in
theorem impl_Board_at.calls (k : Nat) (adp0 : Addr) (l0 : List (S30)) (a1_0 : Int) (a1_1 : Int) (r : Int) (w : World) (hr0 : Kd.C k30 w (some adp0) l0.length l0) (h : impl_Board_at.f k l0 a1_0 a1_1 = some r) :
    Calls Try.prog 30 #[.pointer (some adp0), .agg #[.int .i8 a1_0, .int .i8 a1_1]] w fun e w' => e = .returned (.int .i64 r) ∧ Below w.heap.size w w' := by
 have hu34 := Try.underlying34
 have HR0 := Aside0.mk hr0
 clear hr0
 have HB := Aside0.mk (Below.refl w.heap.size w)
 have H : (if 0 < (l0.length : Int) then ((slices_IndexFunc__impl_Board_at_1.f k ((rd_T30 l0 0).f2) [(⟨a1_0, a1_1⟩ : S34)]).bind fun t184 => (some t184)) else (none)) = some r := h
 clear h
 by_cases c3 : 0 < (l0.length : Int)
 rotate_left
 ·rw [if_neg c3] at H
  exact absurd H (by simp)
 rw [if_pos c3] at H
 have c3b0 : decide (0 < (l0.length : Int)) = true := decide_eq_true c3
 have c3b1 : decide (0 < l0.length) = true := decide_eq_true (by omega)
 clear c3
 replace H := zob H
 obtain ⟨t184, A40, H⟩ := H
 replace H : (some t184) = some r := H
 have A4 := Aside0.mk A40
 clear A40
 obtain rfl := Option.some.inj H
 go_enter Try.func30, Try.ntmps30
 go_wp2_with (first | ((with_reducible refine gate_dst (N := 3) rfl ?_); refine zbx 3 #[.int .i8 a1_0, .int .i8 a1_1] 34 ?_; intro gb182 hg w5 hbox hb; have n_ : _ ∧ _ ∧ _ ∧ _ := ⟨zb HB hb, Aside0.mk (hbox), zg HB hg, zg HB hg⟩; clear HB; obtain ⟨HB, BK182, GW182, GE182⟩ := n_; clear hb hbox hg; have p183 : 0 ≤ (0 : Int) := (by omega); have q183 : 0 < (l0.length : Int) := of_decide_eq_true zA; obtain ⟨ad183, A183_2, c183_2, e183, hx183_0, hx183_1, hx183_2, hl183_2, hi183_2⟩ := at_T30 HR0.out 0 p183 q183; obtain rfl : adp0 = ad183 := (by injection e183); have qi183 : (0 < l0.length) = True := eq_true (by omega); (try simp only [z00, Nat.zero_mul, Addr.add_zero'] at hx183_0 hx183_1 hx183_2); replace hx183_0 := zc HB hx183_0; replace hx183_1 := zc HB hx183_1; replace hx183_2 := zc HB hx183_2; have HR183_2 := Aside0.mk hi183_2; have HC183_2 := Aside0.mk hl183_2; clear hi183_2 hl183_2; replace p183 := eq_true p183; replace q183 := eq_true q183) | ((with_reducible refine gate_callee (f := 50) rfl ?_); refine goesL_ (some 10) rfl rfl Try.func50 (by kernel_rfl) rfl #[.slice A183_2 ((rd_T30 l0 0).f2).length c183_2, .func (.func 51) #[] #[.pointer (some ⟨gb182, 0, none⟩)]] rfl zm ?_; (with_reducible refine (slices_IndexFunc__impl_Board_at_1.calls k _ _ ((rd_T30 l0 0).f2) _ [(⟨a1_0, a1_1⟩ : S34)] t184 _ ?side1 ?side2 ?side3 A4.out).mono ?_); (case side1 => exact zcc HB HR183_2.out); (case side2 => exact HC183_2.out); (case side3 => refine ro_of_blk (T := 34) (cs := #[.int .i8 a1_0, .int .i8 a1_1]) (zh BK182).out ?_; exact k34_mk _ (⟨a1_0, a1_1⟩ : S34) ); rintro e w6 ⟨rfl, hb⟩; refine ⟨_, rfl, ?_⟩; have n_ : _ ∧ _ := ⟨zk BK182 hb, zbs hb⟩; clear BK182 HB; obtain ⟨BK182, HB⟩ := n_; (try clear hb); (try clear hb2); (try clear hk); (try clear hi)))
 go_ret
 exact ⟨zv, zbo⟩
def impl_Board_with.f (l0 : List (S30)) (l1 : List (S62)) : Option (Int × Int) := if 0 < (l0.length : Int) then (some ((rd_T30 l0 0).f0, (rd_T30 l0 0).f1)) else (none)
def impl_Board_with.T1 : Bool × List (List Nat × List Nat) := (true, [([], []), ([0], [0]), ([1], [1]), ([2], [2]), ([], []), ([4], [4]), ([5], [5]), ([6], [6]), ([], []), ([3, 7, 8], [3, 7, 8]), ([9, 0, 1, 2, 3, 4, 5, 6, 7, 8, 9], [9])])
def impl_Board_with.B1 : List Nat := [0, 1, 3, 7, 0, 16, 48, 112, 0, 511, 1023]
theorem impl_Board_with.tab1 : rtab .any (opsOf Try.f52 1) = impl_Board_with.T1 := by kernel_rfl
theorem impl_Board_with.bits1 : waitsOk impl_Board_with.T1.2 impl_Board_with.B1 = true := by kernel_rfl
set_option maxHeartbeats 8000000 in
theorem impl_Board_with.calls (adp0 : Addr) (l0 : List (S30)) (A1 : Option Addr) (c1 : Nat) (l1 : List (S62)) (r1 : Int) (r2 : Int) (w : World) (hr0 : Kd.C k30 w (some adp0) l0.length l0) (hr1 : Kd.C k62 w A1 l1.length l1) (hc1 : l1.length ≤ c1) (h : impl_Board_with.f l0 l1 = some (r1, r2)) :
    Calls Try.prog 52 #[.pointer (some adp0), .slice A1 l1.length c1] w fun e w' => e = .returned (.agg #[.int .i8 r1, .int .i8 r2, .slice A1 l1.length c1]) ∧ Below w.heap.size w w' := by
 have hu30 := Try.underlying30
 have HR0 := Aside0.mk hr0
 clear hr0 hr1 hc1
 have HB := Aside0.mk (Below.refl w.heap.size w)
 unfold impl_Board_with.f at h
 by_cases c3 : 0 < (l0.length : Int)
 rotate_left
 ·rw [if_neg c3] at h
  exact absurd h (by simp)
 rw [if_pos c3] at h
 have c3b0 : decide (0 < (l0.length : Int)) = true := decide_eq_true c3
 have c3b1 : decide (0 < l0.length) = true := decide_eq_true (by omega)
 simp only [Option.some.injEq, Prod.mk.injEq] at h
 obtain ⟨rfl, rfl⟩ := h
 obtain ⟨ad9, A9, c9, e9, hx9_0, hx9_1, hx9_2, hl9, hi9⟩ := at_T30 HR0.out 0 (by omega) c3
 obtain rfl : adp0 = ad9 := (by injection e9)
 clear e9 hl9 hi9 c3
 try simp only [z00, Nat.zero_mul, Addr.add_zero'] at hx9_0 hx9_1 hx9_2
 go_enter Try.func52, Try.ntmps52
 go_wp2_with (first | ((with_reducible refine gate_dst (N := 4) rfl ?_); refine zbx 4 #[.int .i8 0, .int .i8 0, .slice none 0 0] 30 ?_; intro gb9 hg w4 hbox hb; have BK9 := Aside0.mk hbox; have GE9 := Aside0.mk ((by rw [hg]; exact Nat.le_refl _) : w.heap.size ≤ gb9); clear hbox hg HB; have HB := Aside0.mk hb; clear hb; replace hx9_0 := zc HB hx9_0; replace hx9_1 := zc HB hx9_1; clear hx9_2))
 have B7 : Aside0 (w4.drew.heap[gb9]? = some (.cells #[.int .i8 0, .int .i8 0, .slice none 0 0] 30 (0, 0))) := ⟨blk_drew BK9.out⟩
 have HB7 : Aside0 (Below w.heap.size w w4.drew) := ⟨below_drew1 HB.out⟩
 refine start_ (n := 11) (S := fun w' => w'.cell? adp0 = some (.int .i8 ((rd_T30 l0 0).f0)) ∧ w'.cell? ⟨adp0.block, adp0.off + 1, none⟩ = some (.int .i8 ((rd_T30 l0 0).f1))) (ds := [10]) (zq 11 0) (by kernel_rfl) rfl rfl ⟨hx9_0, hx9_1⟩ (fun hHeld => ?_); refine with_tabW impl_Board_with.tab1 impl_Board_with.bits1 (fun HT_ HW_ => ?_)
 clear BK9 HB hx9_0 hx9_1
 generalize w4.drew = w5 at B7 HB7 hHeld ⊢
 have BK9 := B7
 have HB := HB7
 clear B7 HB7
 refine zpu 0 (some 5) (zq 11 1) HT_ ?_
 refine zpu 1 (some 6) (zq 11 3) HT_ ?_
 refine zpu 2 (some 7) (zq 11 7) HT_ ?_
 refine zpu 4 (some 9) (zq 11 23) HT_ ?_
 refine zpu 5 (some 10) (zq 11 55) HT_ ?_
 refine zpu 6 (some 11) (zq 11 119) HT_ ?_
 refine zpu 8 (some 13) (zq 11 375) HT_ ?_
 refine ztk 3 (some 8) (zq 11 383) HT_ HW_ rfl hHeld (Or.inl ⟨by rfl, by (rintro w' ⟨s0, s1⟩; go_simp; with_reducible rfl)⟩) ?_
 refine ztk 7 (some 12) (zq 11 511) HT_ HW_ rfl hHeld (Or.inl ⟨by rfl, by (rintro w' ⟨s0, s1⟩; go_simp; with_reducible rfl)⟩) ?_
 refine zpu 9 (some 14) (zq 11 1023) HT_ ?_
 have hcz_0 : w5.cell? ⟨gb9, 0, none⟩ = some (.int .i8 0) := (blk_cell BK9.out 0).trans rfl
 have hfz_0 := blk_frozen BK9.out 0
 have hcz_1 : w5.cell? ⟨gb9, 1, none⟩ = some (.int .i8 0) := (blk_cell BK9.out 1).trans rfl
 have hfz_1 := blk_frozen BK9.out 1
 have hcz_2 : w5.cell? ⟨gb9, 2, none⟩ = some (.slice none 0 0) := (blk_cell BK9.out 2).trans rfl
 have hfz_2 := blk_frozen BK9.out 2
 refine last_ (i := 10) (N := none) (zq 11 2047) rfl rfl (one_of HT_.out (by kernel_rfl)) (by decide) (fun K hK => ?_)
 refine skip_ (w1 := ?_) (by rfl) rfl ?_ ?_
 rotate_left
 ·go_simp
  rfl
 refine hK.out _ _ ?_
 clear hK K
 refine done_ (done_of HT_.out (by kernel_rfl)) ?_
 clear hHeld HT_ HW_
 try go_wp2_with (first | fail)
 refine bodyPost_ret (results_cell_row rfl _ _ gb9 30 #[.int .i8 ((rd_T30 l0 0).f0), .int .i8 ((rd_T30 l0 0).f1), .slice A1 l1.length c1] (0, 0) _ rfl (zp BK9) Try.underlying30 rfl (by kernel_rfl)) rfl ?_
 exact ⟨rfl, zbo⟩
-- NOT PRINTED: function 53 (impl_Piece_53)

def impl_Piece_54.f (l0 : List (S62)) : Option ((List (S62))) := (some (([] : List (S62)) : List (S62))).bind fun y222 => (if y222.length + l0.length < 28147497671065 then (some (y222 ++ l0)) else (none))
set_option maxHeartbeats 8000000 in
theorem impl_Piece_54.calls (A0 : Option Addr) (c0 : Nat) (l0 : List (S62)) (r : List (S62)) (w : World) (hr0 : Kd.C k62 w A0 l0.length l0) (hc0 : l0.length ≤ c0) (h : impl_Piece_54.f l0 = some r) :
    Calls Try.prog 54 #[.slice A0 l0.length c0] w fun e w' => ∃ v0_ : Value, e = .returned (v0_) ∧ Kd.R k62 62 w' w.heap.size (fun _ => True) v0_ r ∧ Below w.heap.size w w' := by
 rcases A0 with _ | ad0
 ·have hl : l0 = [] := List.eq_nil_iff_length_eq_zero.2 (by rcases Nat.eq_zero_or_pos l0.length with h0 | h0; exact h0; obtain ⟨ad, e, _⟩ := hr0.2.2 h0; cases e)
  subst hl
  obtain rfl : r = [] := by simpa [impl_Piece_54.f] using h.symm
  have hn_ := fun W : World => Lib.run_eql_slice_nil W 28 _ none 0 c0 0 0 Try.underlying28
  go_enter Try.func54, Try.ntmps54
  go_wp2
  go_ret
  exact ⟨_, rfl, Kd.R_nil _ _ _ _ _, Below.refl _ _⟩
 have hn_ := fun W : World => Lib.run_eql_slice_nil W 28 _ (some ad0) l0.length c0 0 0 Try.underlying28
 have HR0 := Aside0.mk hr0
 have HC0 := Aside0.mk hc0
 clear hr0 hc0
 have HB := Aside0.mk (Below.refl w.heap.size w)
 have H : ((some (([] : List (S62)) : List (S62))).bind fun y222 => (if y222.length + l0.length < 28147497671065 then (some (y222 ++ l0)) else (none))) = some r := h
 clear h
 obtain ⟨y222, hy222⟩ : ∃ y_ : List (S62), y_ = (([] : List (S62))) := ⟨_, rfl⟩
 replace H : (if y222.length + l0.length < 28147497671065 then (some (y222 ++ l0)) else (none)) = some r := by first | (rw [hy222]; with_reducible exact H) | (have H2_ := (Option.bind_some _ _).symm.trans H; rw [hy222]; with_reducible exact H2_) | (have H2_ := (Option.bind_some _ _).symm.trans H; with_reducible exact H2_) | with_reducible exact H | (rw [hy222]; exact H) | exact H
 have Ny222 := Aside0.mk hy222
 clear hy222
 by_cases c2 : y222.length + l0.length < 28147497671065
 rotate_left
 ·rw [if_neg c2] at H
  exact absurd H (by simp)
 rw [if_pos c2] at H
 have LMc2 := Aside0.mk c2
 clear c2
 obtain ⟨y225, hy225⟩ : ∃ y_ : List (S62), y_ = (y222 ++ l0) := ⟨_, rfl⟩
 replace H : (some y225) = some r := by first | (rw [hy225]; with_reducible exact H) | (have H2_ := (Option.bind_some _ _).symm.trans H; rw [hy225]; with_reducible exact H2_) | (have H2_ := (Option.bind_some _ _).symm.trans H; with_reducible exact H2_) | with_reducible exact H | (rw [hy225]; exact H) | exact H
 have Ny225 := Aside0.mk hy225
 clear hy225
 obtain rfl := Option.some.inj H
 go_enter Try.func54, Try.ntmps54
 go_wp2_with (first | ((with_reducible refine gate_dst (N := 5) rfl ?_); refine Kd.R_lit k62 _ 62 ?hg (N := 5) ?hd (xs := ([] : List (S62))) (inner := []) (ok := fun _ => True) (okp := fun _ => True) ?hr ?hp (fun _ hk => hk) trivial (Below.refl _ _) (Nat.le_refl _) (by simp) ?_; (case hd => rfl); (case hg => rfl); (case hr => exact zgs); (case hp => exact (Reps.none _ _)); intro v223 w3 ho4 hb hg_ hnew_; clear hg_ hnew_; (first | rw [← Ny222.out] at ho4 | (simp only [Int.reduceToNat] at ho4; rw [← Ny222.out] at ho4)); have n_ : _ ∧ _ := ⟨Aside0.mk (Kd.R_lower ho4 (zz HB)), zb HB hb⟩; clear HB; obtain ⟨HO224, HB⟩ := n_; clear hb ho4) | ((with_reducible refine gate_builtin (b := .append) (xs := #[.tmp 5, .tmp 6]) rfl ?_); at_builtin; refine Kd.R_append_rows k62 (w0 := w) w.heap.size rfl (.tmp 5) (.tmp 6) 28 62 (.agg #[(.int .i8 0), (.int .i8 0), (.int .i8 0), (.int .i8 0), (.int .i8 0)]) 5 rfl Try.underlying28 info62 rfl (by decide) (by omega) v223 y222 l0 _ _ _ (fun _ => True) (fun _ => False) rfl rfl ?aO ?aR (fun _ _ h => h) (fun _ h => h.elim) ?aF ?aB ?aS ?aL ?_; (case aR => exact zcc HB HR0.out); (case aB => exact (zl HB).out); (case aF => exact (fun _ _ => trivial)); (case aO => exact (ze HO224).out); (case aS => exact (zz HB)); (case aL => have := LMc2.out; omega); intro v226 w5 ho hb hg hat; rw [← Ny225.out] at ho; have n_ : _ ∧ _ := ⟨Aside0.mk (hb), Aside0.mk (ho)⟩; clear HB HO224; obtain ⟨HB, HO227⟩ := n_; clear ho hb hg hat))
 go_ret
 exact ⟨_, zv, by (with_reducible repeat (first | apply Kd.R_alloc | apply Kd.R_drewN | apply Kd.R_drew)); exact HO227.out, zbo⟩
section
open Go.Lib
theorem setCells_row (g : Nat) (e : TypeId) (fz : Nat × Nat) : ∀ (vs : List Value) (o : Nat) (w : World) (cur : Array Value), w.heap[g]? = some (.cells cur e fz) → o + vs.length ≤ cur.size →
    (∃ cur', (w.setCells g o vs).heap[g]? = some (.cells cur' e fz) ∧ cur'.toList = cur.toList.take o ++ vs ++ cur.toList.drop (o + vs.length)) ∧ w.grownBy (w.setCells g o vs) (some g) := by
 intro vs
 induction vs with
 | nil => intro o w cur h _; exact ⟨⟨cur, h, by simp⟩, World.grownBy.refl w _⟩
 | cons v vs ih =>
  intro o w cur h hl
  rw [List.length_cons] at hl
  have h1 : (w.setCell ⟨g, o, none⟩ v).heap[g]? = some (.cells (cur.setIfInBounds o v) e fz) := by
   obtain ⟨hlt, hg⟩ := Array.getElem?_eq_some_iff.1 h
   simp [World.setCell, Array.getElem?_modify, h]
  have hgr : w.grownBy (w.setCell ⟨g, o, none⟩ v) (some g) := ⟨rfl, rfl, rfl, by simp [World.setCell], fun k hk hne => by
   simp only [World.setCell, Array.getElem?_modify]
   rw [if_neg (fun hh => hne (by rw [hh]))]⟩
  obtain ⟨⟨cur', hc, hl'⟩, hg'⟩ := ih (o + 1) (w.setCell ⟨g, o, none⟩ v) (cur.setIfInBounds o v) h1 (by rw [Array.size_setIfInBounds]; omega)
  refine ⟨⟨cur', hc, ?_⟩, ?_⟩
  ·have ls : cur.toList.length = cur.size := Array.length_toList
   rw [hl', Array.toList_setIfInBounds, List.set_eq_take_append_cons_drop, if_pos (by omega), List.append_cons, List.length_cons]
   have la : (cur.toList.take o ++ [v]).length = o + 1 := by rw [List.length_append, List.length_take, ls, Nat.min_eq_left (by omega)]; rfl
   rw [List.take_left' la, List.drop_append, la, List.drop_eq_nil_of_le (by omega), List.nil_append, List.drop_drop, show o + 1 + (o + 1 + vs.length - (o + 1)) = o + (vs.length + 1) by omega]
   simp
  ·exact ⟨hg'.os.trans hgr.os, hg'.tape.trans hgr.tape, hg'.output.trans hgr.output, Nat.le_trans hgr.size hg'.size, fun k hk hne => (hg'.block k (Nat.lt_of_lt_of_le hk hgr.size) hne).trans (hgr.block k hk hne)⟩
set_option maxHeartbeats 4000000 in
set_option maxRecDepth 1000000 in
theorem less_del (g n cap i : Nat) (cur : Array Value) (w : World) (hg : w.heap[g]? = some (.cells cur 62 (0, 0))) (hnc : n ≤ cap) (hcm : cap ≤ maxLen) (hcs : cur.size = cap * 5) (hi : i < n) (hone : ∀ u ∈ cur.toList.take (n * 5), u.oneCell' = true) :
    Calls Try.prog 53 #[.slice (some ⟨g, 0, none⟩) n cap, .int .i64 i, .int .i64 ((i : Int) + 1)] w fun e w' => e = .returned (.slice (some ⟨g, 0, none⟩) (n - 1) cap) ∧ w.grownBy w' (some g) ∧
      ∃ cur' : Array Value, w'.heap[g]? = some (.cells cur' 62 (0, 0)) ∧ cur'.size = cap * 5 ∧ cur'.toList.take ((n - 1) * 5) = cur.toList.take (i * 5) ++ (cur.toList.take (n * 5)).drop ((i + 1) * 5) := by
 have t28 := Try.underlying28
 obtain ⟨i0, hi0, hz0, hsz0, hb0⟩ := info_parts info62
 have hm63 : cap ≤ 9223372036854775807 := by simp only [maxLen] at hcm; omega
 obtain ⟨news, hnews⟩ : ∃ news, news = (cur.toList.take (n * 5)).drop ((i + 1) * 5) := ⟨_, rfl⟩
 have hll : cur.toList.length = cap * 5 := by rw [Array.length_toList, hcs]
 have hlen : news.length = (n - (i + 1)) * 5 := by rw [hnews, List.length_drop, List.length_take, hll]; omega
 have hd : w.drew.heap[g]? = some (.cells cur 62 (0, 0)) := hg
 have hgetc : ∀ t, t < n * 5 → w.drew.cell? ⟨g, t, none⟩ = cur[t]? := fun t _ => by rw [cell_of_row w.drew g t cur 62 (0, 0) hd]
 obtain ⟨A, hA, hsrc⟩ : ∃ A : Addr, (if cap = i + 1 then some (⟨g, 0, none⟩ : Addr) else some ⟨g, (i + 1) * 5, none⟩) = some A ∧ Hid (∀ t u, news[t]? = some u → w.drew.cell? (A.add t) = some u) := by
  by_cases h : cap = i + 1
  ·refine ⟨⟨g, 0, none⟩, by simp [h], fun t u hu => ?_⟩
   have h0 : news.length = 0 := by rw [hlen]; omega
   rw [List.length_eq_zero_iff.1 h0] at hu
   simp at hu
  ·refine ⟨⟨g, (i + 1) * 5, none⟩, by simp [h], fun t u hu => ?_⟩
   have ht : t < (n - (i + 1)) * 5 := by
    have := (List.getElem?_eq_some_iff.1 hu).1
    rwa [hlen] at this
   rw [hnews, List.getElem?_drop, List.getElem?_take, if_pos (by omega), Array.getElem?_toList] at hu
   rw [Addr.add_lit, hgetc _ (by omega)]
   exact hu
 have s1 : Hid (news.length = (n - (i + 1)) * 5) := hlen
 have s2 : Hid (∀ u ∈ news, u.oneCell' = true) := by
  intro u hu
  rw [hnews] at hu
  exact hone u (List.mem_of_mem_drop hu)
 have s3 : Hid (∀ t, t < news.length → (w.drew.cell? ⟨g, 0 + i * 5 + t, none⟩).isSome = true ∧ w.drew.frozen? ⟨g, 0 + i * 5 + t, none⟩ = false) := by
  intro t ht
  rw [hlen] at ht
  refine ⟨?_, blk_frozen hd _⟩
  rw [hgetc _ (by omega), Array.getElem?_eq_getElem (by omega)]
  rfl
 obtain ⟨W1, hW1⟩ : ∃ W1, W1 = w.drew.setCells g (0 + i * 5) news := ⟨_, rfl⟩
 obtain ⟨⟨c1, hc1, hl1⟩, hg1⟩ := setCells_row g 62 (0, 0) news (0 + i * 5) w.drew cur hd (by rw [hlen, hcs]; omega)
 rw [← hW1] at hc1 hg1
 have hs1 : c1.size = cap * 5 := by
  rw [← Array.length_toList, hl1]
  simp only [List.length_append, List.length_take, List.length_drop, hll, hlen]
  omega
 have hv : ∀ w, (zeroValue 62).run Try.prog w = .ok (.agg #[.int .i8 0, .int .i8 0, .int .i8 0, .int .i8 0, .int .i8 0]) w := fun w => by simp [zeroValue, typeInfo, hi0, hz0]
 obtain ⟨m, hm⟩ : ∃ m, m = i + (n - (i + 1)) := ⟨_, rfl⟩
 obtain ⟨zs, hzs⟩ : ∃ zs : List Value, zs = (Builtin.zeroCells (Value.cells (.agg #[.int .i8 0, .int .i8 0, .int .i8 0, .int .i8 0, .int .i8 0])) (n - m)).toList := ⟨_, rfl⟩
 have hzl : zs.length = (n - m) * 5 := by rw [hzs, Array.length_toList, size_zeroCells]; rfl
 have hz1 : ∀ u ∈ zs, u.oneCell' = true := by
  intro u hu
  rw [hzs] at hu
  have hnm : n - m = 1 := by omega
  rw [hnm] at hu
  exact List.all_eq_true.1 (show (Builtin.zeroCells (Value.cells (.agg #[.int .i8 0, .int .i8 0, .int .i8 0, .int .i8 0, .int .i8 0])) 1).toList.all (·.oneCell') = true by kernel_rfl) u hu
 have hst := run_storeCells_at Try.prog g (m * 5) 62 zs 0 c1 W1 hc1 (by rw [hzl, hs1]; omega) hz1
 simp only [Nat.add_zero] at hst
 obtain ⟨c2, hc2⟩ : ∃ c2, c2 = (c1.toList.take (m * 5) ++ zs ++ c1.toList.drop (m * 5 + zs.length)).toArray := ⟨_, rfl⟩
 rw [← hc2] at hst
 have hcl : ∀ ty, (Builtin.clear_ #[28] ty #[.slice (some ⟨g, m * 5, none⟩) (n - m) (cap - m)]).run Try.prog W1 = .ok (.tuple #[]) (W1.setRow g c2) := fun ty => by
  obtain ⟨k, hk⟩ : ∃ k, n - m = k + 1 := ⟨n - m - 1, by omega⟩
  rw [hk] at hzs ⊢
  simp [Builtin.clear_, run_underlying t28, hv, ← hzs, hst]
 have hfin : w.grownBy (W1.setRow g c2) (some g) ∧ ∃ cur' : Array Value, (W1.setRow g c2).heap[g]? = some (.cells cur' 62 (0, 0)) ∧ cur'.size = cap * 5 ∧ cur'.toList.take ((n - 1) * 5) = cur.toList.take (i * 5) ++ (cur.toList.take (n * 5)).drop ((i + 1) * 5) := by
  have hsz2 : c2.size = cap * 5 := by
   rw [hc2, List.size_toArray]
   simp only [List.length_append, List.length_take, List.length_drop, Array.length_toList, hs1, hzl]
   omega
  refine ⟨⟨hg1.os, hg1.tape, hg1.output, Nat.le_trans hg1.size (by simp), fun k hk hne => ?_⟩, c2, setRow_heap W1 g c1 _ 62 _ hc1, hsz2, ?_⟩
  ·rw [setRow_other W1 g k _ (fun e => hne (by rw [e]))]
   exact hg1.block k hk hne
  ·have e1 : (n - 1) * 5 = m * 5 := by omega
   have e2 : c2.toList.take (m * 5) = c1.toList.take (m * 5) := by
    rw [hc2, List.append_assoc]
    exact List.take_left' (by rw [List.length_take, Array.length_toList, hs1]; omega)
   rw [e1, e2, hl1, ← hnews, Nat.zero_add]
   exact List.take_left' (by rw [List.length_append, List.length_take, hll, hlen]; omega)
 have X := Aside0.mk hfin
 have hW : Hid (W1 = w.drew.setCells g (0 + i * 5) news) := hW1
 have hic : i ≤ cap := by omega
 have hjc : i + 1 ≤ cap := by omega
 have hmn : m ≤ n := by omega
 have hin : i ≤ i + 1 := by omega
 have hjn : i + 1 ≤ n := by omega
 have hne : ¬ ((i : Int) = (i : Int) + 1) := by omega
 subst hm
 have mixed : Try.prog.follows Departure.mixedOrders = true := by kernel_rfl
 have hcond : (0 ≤ (i : Int) + 1 ∧ (i : Int) + 1 ≤ (n : Int)) := by omega
 have hcond1 : 0 ≤ (i : Int) + 1 := by omega
 have hcond2 : (i : Int) + 1 ≤ (n : Int) := by omega
 clear hW1 hg1 hc1 hs1 hl1 hst hc2 hzl hz1 hzs hnews hlen hll hgetc hd hg hfin hone
 go_enter Try.func53, Try.ntmps53
 go_wp2_with fail
 go_region_law_o (refine step_append_room rfl (.tmp 22) (.tmp 25) 28 rfl 62 i0 5 t28 hi0 hsz0 g 0 i cap (by simp [Act.eval, Act.put]) A (n - (i + 1)) (cap - (i + 1)) news (by simp [Act.eval, Act.put]) s1.out hsrc.out s2.out (by omega) s3.out ?_; rw [← hW.out])
 go_wp2
 go_ret
 refine ⟨by rw [show n - 1 = i + (n - (i + 1)) by omega]; rfl, X.out⟩
theorem less_delete (Ao : Option Addr) (co : Nat) (xs : List (S62)) (i : Int) (w : World) (base : Nat) (ok : Nat → Prop) (hR : Kd.R k62 62 w base ok (.slice Ao xs.length co) xs) (h0 : 0 ≤ i) (h1 : i < (xs.length : Int)) :
    Calls Try.prog 53 #[.slice Ao xs.length co, .int .i64 i, .int .i64 (i + 1)] w fun e w' => ∃ v' : Value, e = .returned v' ∧ Kd.R k62 62 w' base ok v' (xs.eraseIdx i.toNat) ∧ w.grownBy w' (Value.slice Ao xs.length co).ownBlock ∧ v'.ownBlock = (Value.slice Ao xs.length co).ownBlock := by
 obtain ⟨hok, inner, ⟨hl, hown⟩, hr⟩ := hR
 obtain ⟨i, rfl⟩ := Int.eq_ofNat_of_zero_le h0
 have hi : i < xs.length := by omega
 rcases hown with ⟨he, hn⟩ | ⟨g, cap, cur, he, hb, hh, hnc, hcm, hcs, ht⟩
 ·omega
 injection he with e1 _ e3
 subst e1 e3
 have hsz : k62.sz = 5 := rfl
 have hone : ∀ u ∈ cur.toList.take (xs.length * 5), u.oneCell' = true := by
  intro u hu
  rw [show cur.toList.take (xs.length * 5) = inner from ht] at hu
  obtain ⟨q, hq, rfl⟩ := List.mem_iff_getElem.1 hu
  have hql : q / 5 < xs.length := by
   have h2 : inner.length = xs.length * 5 := hl
   omega
  have hc := hr.2 (q / 5) _ (List.getElem?_eq_getElem hql)
  refine k62.K_one (k62.K_of_M hc) _ ?_
  rw [List.mem_iff_getElem?]
  refine ⟨q % 5, ?_⟩
  rw [hsz, List.getElem?_take, if_pos (Nat.mod_lt _ (by omega)), List.getElem?_drop, Nat.mul_comm, Nat.div_add_mod, List.getElem?_eq_getElem hq]
 refine (less_del g xs.length co i cur w hh hnc hcm hcs hi hone).mono ?_
 rintro e w' ⟨rfl, hg, cur', hh', hs', ht'⟩
 have hel : (xs.eraseIdx i).length = xs.length - 1 := List.length_eraseIdx_of_lt hi
 refine ⟨_, rfl, ?_, hg, rfl⟩
 rw [show (((i : Nat) : Int)).toNat = i from rfl]
 refine ⟨fun k hk => hok k hk, inner.take (i * 5) ++ inner.drop ((i + 1) * 5), ⟨?_, .inr ⟨g, co, cur', by rw [hel], hb, hh', by rw [hel]; omega, hcm, hs', ?_⟩⟩, ?_⟩
 ·have h2 : inner.length = xs.length * 5 := hl
  show _ = _ * 5
  rw [hel, List.length_append, List.length_take, List.length_drop, h2]
  omega
 ·have h3 : cur.toList.take (i * 5) = inner.take (i * 5) := by
   rw [← show cur.toList.take (xs.length * 5) = inner from ht, List.take_take, Nat.min_eq_left (by omega)]
  rw [hel]
  show cur'.toList.take ((xs.length - 1) * 5) = _
  rw [ht', h3, show cur.toList.take (xs.length * 5) = inner from ht]
 rw [List.eraseIdx_eq_take_drop_succ]
 have step : ∀ {q : S62} {c : List Value}, k62.M w base (fun k => ok k ∧ some k ≠ (Value.slice (some ⟨g, 0, none⟩) xs.length co).ownBlock) q c → k62.M w' base (fun k => ok k ∧ some k ≠ (Value.slice (some ⟨g, 0, none⟩) (xs.length - 1) co).ownBlock) q c := by
  intro q c hq
  have h2 := k62.M_move (w1 := w') (fun k hk => hg.block k hk.2.2.1 hk.1.2) (k62.M_bound hq)
  exact k62.M_mono (fun k hk => hk.1) h2
 exact Kd.reps_append ((Kd.reps_take hr (by omega)).imp_ (fun _ _ hq => step hq)) ((Kd.reps_drop hr).imp_ (fun _ _ hq => step hq))
theorem less_clen {l t : List (S62)} (h : impl_Piece_54.f l = some t) : t.length < 28147497671065 := by
 unfold impl_Piece_54.f at h
 rw [Option.bind_some] at h
 by_cases c : ([] : List (S62)).length + l.length < 28147497671065
 rotate_left
 ·rw [if_neg c] at h
  cases h
 rw [if_pos c] at h
 obtain rfl := Option.some.inj h
 simpa using c
end
def impl_Board_less.f (l0 : List (S30)) (a1 : Int) : Option (Int × Int × (List (S62))) := if 0 < (l0.length : Int) then ((impl_Piece_54.f ((rd_T30 l0 0).f2)).bind fun t208 => ((if 0 ≤ a1 then (if a1 < (t208.length : Int) then some (t208.eraseIdx a1.toNat) else none) else none).bind fun t211 => ((impl_Board_with.f l0 t211).bind fun bt214 => (some (bt214.1, bt214.2, t211))))) else (none)
set_option maxHeartbeats 8000000 in
theorem impl_Board_less.calls (adp0 : Addr) (l0 : List (S30)) (a1 : Int) (r1 : Int) (r2 : Int) (r3 : List (S62)) (w : World) (hr0 : Kd.C k30 w (some adp0) l0.length l0) (h : impl_Board_less.f l0 a1 = some (r1, r2, r3)) :
    Calls Try.prog 31 #[.pointer (some adp0), .int .i64 a1] w fun e w' => ∃ v2_ : Value, e = .returned (.agg #[.int .i8 r1, .int .i8 r2, v2_]) ∧ Kd.R k62 62 w' w.heap.size (fun _ => True) v2_ r3 ∧ Below w.heap.size w w' := by
 have hu30 := Try.underlying30
 have HR0 := Aside0.mk hr0
 clear hr0
 have HB := Aside0.mk (Below.refl w.heap.size w)
 have H : (if 0 < (l0.length : Int) then ((impl_Piece_54.f ((rd_T30 l0 0).f2)).bind fun t208 => ((if 0 ≤ a1 then (if a1 < (t208.length : Int) then some (t208.eraseIdx a1.toNat) else none) else none).bind fun t211 => ((impl_Board_with.f l0 t211).bind fun bt214 => (some (bt214.1, bt214.2, t211))))) else (none)) = some (r1, r2, r3) := h
 clear h
 by_cases c3 : 0 < (l0.length : Int)
 rotate_left
 ·rw [if_neg c3] at H
  exact absurd H (by simp)
 rw [if_pos c3] at H
 have c3b0 : decide (0 < (l0.length : Int)) = true := decide_eq_true c3
 have c3b1 : decide (0 < l0.length) = true := decide_eq_true (by omega)
 clear c3
 replace H := zob H
 obtain ⟨t208, A40, H⟩ := H
 replace H : ((if 0 ≤ a1 then (if a1 < (t208.length : Int) then some (t208.eraseIdx a1.toNat) else none) else none).bind fun t211 => ((impl_Board_with.f l0 t211).bind fun bt214 => (some (bt214.1, bt214.2, t211)))) = some (r1, r2, r3) := H
 have A4 := Aside0.mk A40
 clear A40
 replace H := zob H
 obtain ⟨t211, A50, H⟩ := H
 replace H : ((impl_Board_with.f l0 t211).bind fun bt214 => (some (bt214.1, bt214.2, t211))) = some (r1, r2, r3) := H
 by_cases cQ : 0 ≤ a1
 rotate_left
 ·rw [if_neg cQ] at A50; exact absurd A50 (by simp)
 rw [if_pos cQ] at A50
 by_cases cR : a1 < (t208.length : Int)
 rotate_left
 ·rw [if_neg cR] at A50; exact absurd A50 (by simp)
 rw [if_pos cR] at A50
 have A5 := Aside0.mk (Option.some.inj A50)
 have CQ := Aside0.mk cQ
 have CR := Aside0.mk cR
 clear A50 cQ cR
 replace H := zob H
 obtain ⟨⟨t214, t215⟩, A60, H⟩ := H
 replace H : (some (t214, t215, t211)) = some (r1, r2, r3) := H
 have A6 := Aside0.mk A60
 clear A60
 simp only [Option.some.injEq, Prod.mk.injEq] at H
 obtain ⟨rfl, rfl, rfl⟩ := H
 have hL208 : t208.length < 28147497671065 := less_clen A4.out
 have hjQ : IntKind.i64.wrap (a1 + 1) = a1 + 1 := (i64_w _).trans (by have := CQ.out; have := CR.out; unfold wrap64; omega)
 clear hL208
 go_enter Try.func31, Try.ntmps31
 go_wp2_with (first | ((with_reducible refine gate_dst (N := 4) rfl ?_); refine zbx 4 #[.int .i8 0, .int .i8 0, .slice none 0 0] 30 ?_; intro gb206 hg w7 hbox hb; have n_ : _ ∧ _ ∧ _ ∧ _ := ⟨zb HB hb, Aside0.mk (hbox), zg HB hg, zg HB hg⟩; clear HB; obtain ⟨HB, BK206, GW206, GE206⟩ := n_; clear hb hbox hg; have p207 : 0 ≤ (0 : Int) := (by omega); have q207 : 0 < (l0.length : Int) := of_decide_eq_true zA; obtain ⟨ad207, A207_2, c207_2, e207, hx207_0, hx207_1, hx207_2, hl207_2, hi207_2⟩ := at_T30 HR0.out 0 p207 q207; obtain rfl : adp0 = ad207 := (by injection e207); have qi207 : (0 < l0.length) = True := eq_true (by omega); (try simp only [z00, Nat.zero_mul, Addr.add_zero'] at hx207_0 hx207_1 hx207_2); replace hx207_0 := zc HB hx207_0; replace hx207_1 := zc HB hx207_1; replace hx207_2 := zc HB hx207_2; have HR207_2 := Aside0.mk hi207_2; have HC207_2 := Aside0.mk hl207_2; clear hi207_2 hl207_2; replace p207 := eq_true p207; replace q207 := eq_true q207) | ((with_reducible refine gate_callee (f := 54) rfl ?_); refine goesL_ (some 10) rfl rfl Try.func54 (by kernel_rfl) rfl #[.slice A207_2 ((rd_T30 l0 0).f2).length c207_2] rfl zm ?_; (with_reducible refine (impl_Piece_54.calls _ _ ((rd_T30 l0 0).f2) t208 _ ?side1 ?side2 A4.out).mono ?_); (case side1 => exact zcc HB HR207_2.out); (case side2 => exact HC207_2.out); rintro e w8 ⟨v209, rfl, ho0, hb⟩; refine ⟨_, rfl, ?_⟩; have n_ : _ ∧ _ ∧ _ := ⟨Aside0.mk (Kd.R_lower ho0 (zz HB)), zk BK206 hb, zbs hb⟩; clear BK206 HB; obtain ⟨HO210, BK206, HB⟩ := n_; (try clear hb); (try clear hb2); (try clear hk); (try clear hi); (try clear ho0); obtain ⟨Ao9, co9, eo9⟩ := Kd.R_slice HO210.out; subst eo9) | ((with_reducible refine gate_callee (f := 53) rfl ?_); refine goesL_ (some 14) rfl rfl Try.func53 (by kernel_rfl) rfl #[.slice Ao9 t208.length co9, .int .i64 a1, .int .i64 (a1 + 1)] rfl zm ?_; (with_reducible refine (less_delete Ao9 co9 t208 a1 _ w.heap.size (fun _ => True) ?side1 CQ.out CR.out).mono ?_); (case side1 => (with_reducible repeat (first | apply Kd.R_alloc | apply Kd.R_drewN | apply Kd.R_drew)); exact HO210.out); rintro e w10 ⟨v212, rfl, ho0, hg, hat⟩; refine ⟨_, rfl, ?_⟩; rw [A5.out] at ho0; have n1_ := Aside0.mk ho0; have n2_ := Aside0.mk (blk_grown (g := gb206) (o := .cells #[.int .i8 0, .int .i8 0, .slice none 0 0] 30 (0, 0)) (zh BK206).out hg (Kd.R_ne HO210.out BK206.out (by decide))); have n3_ := Aside0.mk (pw_below_grown zbo _ (zz HB) hg (Kd.R_base HO210.out)); clear HO210; clear BK206; clear HB; have HO213 := n1_; have BK206 := n2_; have HB := n3_; clear n1_ n2_ n3_; clear hg hat; (try clear ho0); obtain ⟨Ao11, co11, eo11⟩ := Kd.R_slice HO213.out; subst eo11) | ((with_reducible refine gate_callee (f := 52) rfl ?_); refine goesL_ (some 15) rfl rfl Try.func52 (by kernel_rfl) rfl #[.pointer (some adp0), .slice Ao11 t211.length co11] rfl zm ?_; (with_reducible refine (impl_Board_with.calls _ l0 _ _ t211 t214 t215 _ ?side1 ?side2 ?side3 A6.out).mono ?_); (case side1 => exact zcc HB HR0.out); (case side2 => exact zrc HO213); (case side3 => exact (Kd.R_reads' HO213.out).2.1); rintro e w12 ⟨rfl, hb⟩; refine ⟨_, rfl, ?_⟩; have n1_ := zr HO213 hb; have n2_ := zk BK206 hb; have n3_ := zbs hb; clear HO213; clear BK206; clear HB; have HO213 := n1_; have BK206 := n2_; have HB := n3_; clear n1_ n2_ n3_; (try clear hb); (try clear hb2); (try clear hk); (try clear hi); obtain ⟨z13_0, z13_1, z13_2, y13_0, y13_1, y13_2⟩ := zB3 BK206))
 refine bodyPost_ret (results_cell_row rfl _ _ gb206 30 #[.int .i8 t214, .int .i8 t215, .slice Ao11 t211.length co11] (0, 0) _ rfl (zp BK206) Try.underlying30 rfl (by kernel_rfl)) rfl ?_
 exact ⟨_, zv, Kd.R_mono (zs HO213 BK206).out (fun _ hk => trivial), zbo⟩
def impl_TakePiece.f (k : Nat) (a0_0 : Int) (a0_1 : Int) (l0_2 : List (S62)) (a1_0 : Int) (a1_1 : Int) : Option (Int × Int × (List (S62)) × Int) := (impl_ValidBoard.f k a0_0 a0_1 l0_2).bind fun t188 => (if t188 = true then ((impl_Board_at.f k [(⟨a0_0, a0_1, l0_2⟩ : S30)] a1_0 a1_1).bind fun t189 => (if t189 < 0 then (some (0, 0, ([] : List (S62)), 6)) else ((impl_Board_less.f [(⟨a0_0, a0_1, l0_2⟩ : S30)] t189).bind fun bt190 => (some (bt190.1, bt190.2.1, bt190.2.2, 0))))) else (some (0, 0, ([] : List (S62)), 1)))
theorem impl_TakePiece.mono : ∀ a0 a1 a2 a3 a4 k, LeO (impl_TakePiece.f k a0 a1 a2 a3 a4) (impl_TakePiece.f (k + 1) a0 a1 a2 a3 a4) := by
 intro a0 a1 a2 a3 a4 k
 unfold impl_TakePiece.f
 repeat' first | (with_reducible first | apply impl_Board_at.mono | apply impl_ValidBoard.mono | exact LeO.refl _ | exact LeO.none _ | refine LeO.ite ?_ ?_ | refine LeO.bind ?_ (fun _ => ?_)) | apply impl_Board_at.mono | apply impl_ValidBoard.mono | exact LeO.none _ | refine LeO.ite ?_ ?_ | refine LeO.bind ?_ (fun _ => ?_)
set_option maxHeartbeats 8000000 in
theorem impl_TakePiece.calls (k : Nat) (a0_0 : Int) (a0_1 : Int) (A0_2 : Option Addr) (c0_2 : Nat) (l0_2 : List (S62)) (a1_0 : Int) (a1_1 : Int) (r1 : Int) (r2 : Int) (r3 : List (S62)) (r4 : Int) (w : World) (hr0_2 : Kd.C k62 w A0_2 l0_2.length l0_2) (hc0_2 : l0_2.length ≤ c0_2) (h : impl_TakePiece.f k a0_0 a0_1 l0_2 a1_0 a1_1 = some (r1, r2, r3, r4)) :
    Calls Try.prog 10 #[.agg #[.int .i8 a0_0, .int .i8 a0_1, .slice A0_2 l0_2.length c0_2], .agg #[.int .i8 a1_0, .int .i8 a1_1]] w fun e w' => ∃ v2_ : Value, e = .returned (.tuple #[.agg #[.int .i8 r1, .int .i8 r2, v2_], .int .i64 r4]) ∧ Kd.R k62 62 w' w.heap.size (fun _ => True) v2_ r3 ∧ Below w.heap.size w w' := by
 have hu30 := Try.underlying30
 have hu34 := Try.underlying34
 have HR0_2 := Aside0.mk hr0_2
 have HC0_2 := Aside0.mk hc0_2
 clear hr0_2 hc0_2
 have HB := Aside0.mk (Below.refl w.heap.size w)
 have H : ((impl_ValidBoard.f k a0_0 a0_1 l0_2).bind fun t188 => (if t188 = true then ((impl_Board_at.f k [(⟨a0_0, a0_1, l0_2⟩ : S30)] a1_0 a1_1).bind fun t189 => (if t189 < 0 then (some (0, 0, ([] : List (S62)), 6)) else ((impl_Board_less.f [(⟨a0_0, a0_1, l0_2⟩ : S30)] t189).bind fun bt190 => (some (bt190.1, bt190.2.1, bt190.2.2, 0))))) else (some (0, 0, ([] : List (S62)), 1)))) = some (r1, r2, r3, r4) := h
 clear h
 replace H := zob H
 obtain ⟨t188, A30, H⟩ := H
 replace H : (if t188 = true then ((impl_Board_at.f k [(⟨a0_0, a0_1, l0_2⟩ : S30)] a1_0 a1_1).bind fun t189 => (if t189 < 0 then (some (0, 0, ([] : List (S62)), 6)) else ((impl_Board_less.f [(⟨a0_0, a0_1, l0_2⟩ : S30)] t189).bind fun bt190 => (some (bt190.1, bt190.2.1, bt190.2.2, 0))))) else (some (0, 0, ([] : List (S62)), 1))) = some (r1, r2, r3, r4) := H
 have A3 := Aside0.mk A30
 clear A30
 by_cases c4 : t188 = true
 rotate_left
 ·replace c4 := Bool.eq_false_iff.mpr c4
  subst c4
  have H1 : (some (0, 0, ([] : List (S62)), 1)) = some (r1, r2, r3, r4) := by rw [if_neg (show ¬ (false = true) by decide)] at H; exact H
  clear H
  have H := H1
  clear H1
  simp only [Option.some.injEq, Prod.mk.injEq] at H
  obtain ⟨rfl, rfl, rfl, rfl⟩ := H
  go_enter Try.func10, Try.ntmps10
  go_wp2_with (first | ((with_reducible refine gate_dst (N := 2) rfl ?_); refine zbx 2 #[.int .i8 a0_0, .int .i8 a0_1, .slice A0_2 l0_2.length c0_2] 30 ?_; intro gb185 hg w32 hbox hb; have n_ : _ ∧ _ ∧ _ ∧ _ := ⟨zb HB hb, Aside0.mk (hbox), zg HB hg, zg HB hg⟩; clear HB; obtain ⟨HB, BK185, GW185, GE185⟩ := n_; clear hb hbox hg) | ((with_reducible refine gate_dst (N := 3) rfl ?_); refine zbx 3 #[.int .i8 a1_0, .int .i8 a1_1] 34 ?_; intro gb186 hg w33 hbox hb; have n_ : _ ∧ _ ∧ _ ∧ _ ∧ _ ∧ _ ∧ _ := ⟨zk BK185 hb, zbs hb, Aside0.mk (hbox), zg HB hg, zg HB hg, zn1 BK185 hg, zn2 BK185 hg⟩; clear BK185 HB; obtain ⟨BK185, HB, BK186, GW186, GE186, NB185_186, NB186_185⟩ := n_; clear hb hbox hg) | ((with_reducible refine gate_dst (N := 4) rfl ?_); refine zbx 4 #[.int .i8 0, .int .i8 0, .slice none 0 0] 30 ?_; intro gb187 hg w34 hbox hb; have n_ : _ ∧ _ ∧ _ ∧ _ ∧ _ ∧ _ ∧ _ ∧ _ ∧ _ ∧ _ := ⟨zk BK185 hb, zk BK186 hb, zbs hb, Aside0.mk (hbox), zg HB hg, zg HB hg, zn1 BK185 hg, zn2 BK185 hg, zn1 BK186 hg, zn2 BK186 hg⟩; clear BK185 BK186 HB; obtain ⟨BK185, BK186, HB, BK187, GW187, GE187, NB185_187, NB187_185, NB186_187, NB187_186⟩ := n_; clear hb hbox hg; have hnb35 := NB185_186.out; have hnc35 := NB186_185.out; have hnb36 := NB185_187.out; have hnc36 := NB187_185.out; obtain ⟨z37_0, z37_1, z37_2, y37_0, y37_1, y37_2⟩ := zB3 BK185) | ((with_reducible refine gate_callee (f := 29) rfl ?_); refine goesL_ (some 8) rfl rfl Try.func29 (by kernel_rfl) rfl #[.agg #[.int .i8 a0_0, .int .i8 a0_1, .slice A0_2 l0_2.length c0_2]] rfl zm ?_; (with_reducible refine (impl_ValidBoard.calls k a0_0 a0_1 _ _ l0_2 false _ ?side1 ?side2 A3.out).mono ?_); (case side1 => exact zcc HB HR0_2.out); (case side2 => exact HC0_2.out); rintro e w38 ⟨rfl, hb⟩; refine ⟨_, rfl, ?_⟩; have n_ : _ ∧ _ ∧ _ ∧ _ := ⟨zk BK185 hb, zk BK186 hb, zk BK187 hb, zbs hb⟩; clear BK185 BK186 BK187 HB; obtain ⟨BK185, BK186, BK187, HB⟩ := n_; (try clear hb); (try clear hb2); (try clear hk); (try clear hi); have hnb39 := NB187_186.out; have hnc39 := NB186_187.out; obtain ⟨z40_0, z40_1, z40_2, y40_0, y40_1, y40_2⟩ := zB3 BK187))
  refine bodyPost_ret (results_ct rfl _ _ gb187 30 #[.int .i8 0, .int .i8 0, .slice none 0 0] (0, 0) _ rfl (zp BK187) Try.underlying30 rfl (by kernel_rfl)) rfl ?_
  exact ⟨_, zv, by first | exact Kd.R_nil _ _ _ _ _ | exact Kd.N_nil _ _ _ _ _ | exact Kd.V_nil _ _ _ _ _ | exact Kd.Q_nil _ _ _ _ _ | exact Kd.S_nil _ _ _ _ _, zbo⟩
 subst c4
 have H1 : ((impl_Board_at.f k [(⟨a0_0, a0_1, l0_2⟩ : S30)] a1_0 a1_1).bind fun t189 => (if t189 < 0 then (some (0, 0, ([] : List (S62)), 6)) else ((impl_Board_less.f [(⟨a0_0, a0_1, l0_2⟩ : S30)] t189).bind fun bt190 => (some (bt190.1, bt190.2.1, bt190.2.2, 0))))) = some (r1, r2, r3, r4) := by rw [if_pos rfl] at H; exact H
 clear H
 have H := H1
 clear H1
 replace H := zob H
 obtain ⟨t189, A50, H⟩ := H
 replace H : (if t189 < 0 then (some (0, 0, ([] : List (S62)), 6)) else ((impl_Board_less.f [(⟨a0_0, a0_1, l0_2⟩ : S30)] t189).bind fun bt190 => (some (bt190.1, bt190.2.1, bt190.2.2, 0)))) = some (r1, r2, r3, r4) := H
 have A5 := Aside0.mk A50
 clear A50
 by_cases c6 : t189 < 0
 ·rw [if_pos c6] at H
  have c6b0 : decide (t189 < 0) = true := decide_eq_true c6
  clear c6
  simp only [Option.some.injEq, Prod.mk.injEq] at H
  obtain ⟨rfl, rfl, rfl, rfl⟩ := H
  go_enter Try.func10, Try.ntmps10
  go_wp2_with (first | ((with_reducible refine gate_dst (N := 2) rfl ?_); refine zbx 2 #[.int .i8 a0_0, .int .i8 a0_1, .slice A0_2 l0_2.length c0_2] 30 ?_; intro gb185 hg w7 hbox hb; have n_ : _ ∧ _ ∧ _ ∧ _ := ⟨zb HB hb, Aside0.mk (hbox), zg HB hg, zg HB hg⟩; clear HB; obtain ⟨HB, BK185, GW185, GE185⟩ := n_; clear hb hbox hg) | ((with_reducible refine gate_dst (N := 3) rfl ?_); refine zbx 3 #[.int .i8 a1_0, .int .i8 a1_1] 34 ?_; intro gb186 hg w8 hbox hb; have n_ : _ ∧ _ ∧ _ ∧ _ ∧ _ ∧ _ ∧ _ := ⟨zk BK185 hb, zbs hb, Aside0.mk (hbox), zg HB hg, zg HB hg, zn1 BK185 hg, zn2 BK185 hg⟩; clear BK185 HB; obtain ⟨BK185, HB, BK186, GW186, GE186, NB185_186, NB186_185⟩ := n_; clear hb hbox hg) | ((with_reducible refine gate_dst (N := 4) rfl ?_); refine zbx 4 #[.int .i8 0, .int .i8 0, .slice none 0 0] 30 ?_; intro gb187 hg w9 hbox hb; have n_ : _ ∧ _ ∧ _ ∧ _ ∧ _ ∧ _ ∧ _ ∧ _ ∧ _ ∧ _ := ⟨zk BK185 hb, zk BK186 hb, zbs hb, Aside0.mk (hbox), zg HB hg, zg HB hg, zn1 BK185 hg, zn2 BK185 hg, zn1 BK186 hg, zn2 BK186 hg⟩; clear BK185 BK186 HB; obtain ⟨BK185, BK186, HB, BK187, GW187, GE187, NB185_187, NB187_185, NB186_187, NB187_186⟩ := n_; clear hb hbox hg; have hnb10 := NB185_186.out; have hnc10 := NB186_185.out; have hnb11 := NB185_187.out; have hnc11 := NB187_185.out; obtain ⟨z12_0, z12_1, z12_2, y12_0, y12_1, y12_2⟩ := zB3 BK185) | ((with_reducible refine gate_callee (f := 29) rfl ?_); refine goesL_ (some 8) rfl rfl Try.func29 (by kernel_rfl) rfl #[.agg #[.int .i8 a0_0, .int .i8 a0_1, .slice A0_2 l0_2.length c0_2]] rfl zm ?_; (with_reducible refine (impl_ValidBoard.calls k a0_0 a0_1 _ _ l0_2 true _ ?side1 ?side2 A3.out).mono ?_); (case side1 => exact zcc HB HR0_2.out); (case side2 => exact HC0_2.out); rintro e w13 ⟨rfl, hb⟩; refine ⟨_, rfl, ?_⟩; have n_ : _ ∧ _ ∧ _ ∧ _ := ⟨zk BK185 hb, zk BK186 hb, zk BK187 hb, zbs hb⟩; clear BK185 BK186 BK187 HB; obtain ⟨BK185, BK186, BK187, HB⟩ := n_; (try clear hb); (try clear hb2); (try clear hk); (try clear hi); have hnb14 := NB186_187.out; have hnc14 := NB187_186.out; obtain ⟨z15_0, z15_1, y15_0, y15_1⟩ := zB2 BK186) | ((with_reducible refine gate_callee (f := 30) rfl ?_); refine goesL_ (some 12) rfl rfl Try.func30 (by kernel_rfl) rfl #[.pointer (some ⟨gb185, 0, none⟩), .agg #[.int .i8 a1_0, .int .i8 a1_1]] rfl zm ?_; (with_reducible refine (impl_Board_at.calls k _ [(⟨a0_0, a0_1, l0_2⟩ : S30)] a1_0 a1_1 t189 _ ?side1 A5.out).mono ?_); (case side1 => refine ro_of_blk (T := 30) (cs := #[.int .i8 a0_0, .int .i8 a0_1, .slice A0_2 l0_2.length c0_2]) (zh BK185).out ?_; exact k30_mk _ (⟨a0_0, a0_1, l0_2⟩ : S30) (by exact HC0_2.out) (by exact zcc HB HR0_2.out)); rintro e w16 ⟨rfl, hb⟩; refine ⟨_, rfl, ?_⟩; have n_ : _ ∧ _ ∧ _ ∧ _ := ⟨zk BK185 hb, zk BK186 hb, zk BK187 hb, zbs hb⟩; clear BK185 BK186 BK187 HB; obtain ⟨BK185, BK186, BK187, HB⟩ := n_; (try clear hb); (try clear hb2); (try clear hk); (try clear hi); obtain ⟨z17_0, z17_1, z17_2, y17_0, y17_1, y17_2⟩ := zB3 BK187))
  refine bodyPost_ret (results_ct rfl _ _ gb187 30 #[.int .i8 0, .int .i8 0, .slice none 0 0] (0, 0) _ rfl (zp BK187) Try.underlying30 rfl (by kernel_rfl)) rfl ?_
  exact ⟨_, zv, by first | exact Kd.R_nil _ _ _ _ _ | exact Kd.N_nil _ _ _ _ _ | exact Kd.V_nil _ _ _ _ _ | exact Kd.Q_nil _ _ _ _ _ | exact Kd.S_nil _ _ _ _ _, zbo⟩
 rw [if_neg c6] at H
 have c6b0 : decide (t189 < 0) = false := decide_eq_false c6
 clear c6
 replace H := zob H
 obtain ⟨⟨t190, t191, t192⟩, A180, H⟩ := H
 replace H : (some (t190, t191, t192, 0)) = some (r1, r2, r3, r4) := H
 have A18 := Aside0.mk A180
 clear A180
 simp only [Option.some.injEq, Prod.mk.injEq] at H
 obtain ⟨rfl, rfl, rfl, rfl⟩ := H
 go_enter Try.func10, Try.ntmps10
 go_wp2_with (first | ((with_reducible refine gate_dst (N := 2) rfl ?_); refine zbx 2 #[.int .i8 a0_0, .int .i8 a0_1, .slice A0_2 l0_2.length c0_2] 30 ?_; intro gb185 hg w19 hbox hb; have n_ : _ ∧ _ ∧ _ ∧ _ := ⟨zb HB hb, Aside0.mk (hbox), zg HB hg, zg HB hg⟩; clear HB; obtain ⟨HB, BK185, GW185, GE185⟩ := n_; clear hb hbox hg) | ((with_reducible refine gate_dst (N := 3) rfl ?_); refine zbx 3 #[.int .i8 a1_0, .int .i8 a1_1] 34 ?_; intro gb186 hg w20 hbox hb; have n_ : _ ∧ _ ∧ _ ∧ _ ∧ _ ∧ _ ∧ _ := ⟨zk BK185 hb, zbs hb, Aside0.mk (hbox), zg HB hg, zg HB hg, zn1 BK185 hg, zn2 BK185 hg⟩; clear BK185 HB; obtain ⟨BK185, HB, BK186, GW186, GE186, NB185_186, NB186_185⟩ := n_; clear hb hbox hg) | ((with_reducible refine gate_dst (N := 4) rfl ?_); refine zbx 4 #[.int .i8 0, .int .i8 0, .slice none 0 0] 30 ?_; intro gb187 hg w21 hbox hb; have n_ : _ ∧ _ ∧ _ ∧ _ ∧ _ ∧ _ ∧ _ ∧ _ ∧ _ ∧ _ := ⟨zk BK185 hb, zk BK186 hb, zbs hb, Aside0.mk (hbox), zg HB hg, zg HB hg, zn1 BK185 hg, zn2 BK185 hg, zn1 BK186 hg, zn2 BK186 hg⟩; clear BK185 BK186 HB; obtain ⟨BK185, BK186, HB, BK187, GW187, GE187, NB185_187, NB187_185, NB186_187, NB187_186⟩ := n_; clear hb hbox hg; have hnb22 := NB185_186.out; have hnc22 := NB186_185.out; have hnb23 := NB185_187.out; have hnc23 := NB187_185.out; obtain ⟨z24_0, z24_1, z24_2, y24_0, y24_1, y24_2⟩ := zB3 BK185) | ((with_reducible refine gate_callee (f := 29) rfl ?_); refine goesL_ (some 8) rfl rfl Try.func29 (by kernel_rfl) rfl #[.agg #[.int .i8 a0_0, .int .i8 a0_1, .slice A0_2 l0_2.length c0_2]] rfl zm ?_; (with_reducible refine (impl_ValidBoard.calls k a0_0 a0_1 _ _ l0_2 true _ ?side1 ?side2 A3.out).mono ?_); (case side1 => exact zcc HB HR0_2.out); (case side2 => exact HC0_2.out); rintro e w25 ⟨rfl, hb⟩; refine ⟨_, rfl, ?_⟩; have n_ : _ ∧ _ ∧ _ ∧ _ := ⟨zk BK185 hb, zk BK186 hb, zk BK187 hb, zbs hb⟩; clear BK185 BK186 BK187 HB; obtain ⟨BK185, BK186, BK187, HB⟩ := n_; (try clear hb); (try clear hb2); (try clear hk); (try clear hi); have hnb26 := NB186_187.out; have hnc26 := NB187_186.out; obtain ⟨z27_0, z27_1, y27_0, y27_1⟩ := zB2 BK186) | ((with_reducible refine gate_callee (f := 30) rfl ?_); refine goesL_ (some 12) rfl rfl Try.func30 (by kernel_rfl) rfl #[.pointer (some ⟨gb185, 0, none⟩), .agg #[.int .i8 a1_0, .int .i8 a1_1]] rfl zm ?_; (with_reducible refine (impl_Board_at.calls k _ [(⟨a0_0, a0_1, l0_2⟩ : S30)] a1_0 a1_1 t189 _ ?side1 A5.out).mono ?_); (case side1 => refine ro_of_blk (T := 30) (cs := #[.int .i8 a0_0, .int .i8 a0_1, .slice A0_2 l0_2.length c0_2]) (zh BK185).out ?_; exact k30_mk _ (⟨a0_0, a0_1, l0_2⟩ : S30) (by exact HC0_2.out) (by exact zcc HB HR0_2.out)); rintro e w28 ⟨rfl, hb⟩; refine ⟨_, rfl, ?_⟩; have n_ : _ ∧ _ ∧ _ ∧ _ := ⟨zk BK185 hb, zk BK186 hb, zk BK187 hb, zbs hb⟩; clear BK185 BK186 BK187 HB; obtain ⟨BK185, BK186, BK187, HB⟩ := n_; (try clear hb); (try clear hb2); (try clear hk); (try clear hi)) | ((with_reducible refine gate_callee (f := 31) rfl ?_); refine goesL_ (some 17) rfl rfl Try.func31 (by kernel_rfl) rfl #[.pointer (some ⟨gb185, 0, none⟩), .int .i64 t189] rfl zm ?_; (with_reducible refine (impl_Board_less.calls _ [(⟨a0_0, a0_1, l0_2⟩ : S30)] t189 t190 t191 t192 _ ?side1 A18.out).mono ?_); (case side1 => refine ro_of_blk (T := 30) (cs := #[.int .i8 a0_0, .int .i8 a0_1, .slice A0_2 l0_2.length c0_2]) (zh BK185).out ?_; exact k30_mk _ (⟨a0_0, a0_1, l0_2⟩ : S30) (by exact HC0_2.out) (by exact zcc HB HR0_2.out)); rintro e w29 ⟨v193, rfl, ho0, hb⟩; refine ⟨_, rfl, ?_⟩; have n_ : _ ∧ _ ∧ _ ∧ _ ∧ _ := ⟨Aside0.mk (Kd.R_lower ho0 (zz HB)), zk BK185 hb, zk BK186 hb, zk BK187 hb, zbs hb⟩; clear BK185 BK186 BK187 HB; obtain ⟨HO194, BK185, BK186, BK187, HB⟩ := n_; (try clear hb); (try clear hb2); (try clear hk); (try clear hi); (try clear ho0); obtain ⟨z30_0, z30_1, z30_2, y30_0, y30_1, y30_2⟩ := zB3 BK187; obtain ⟨Ao31, co31, eo31⟩ := Kd.R_slice HO194.out; subst eo31))
 refine bodyPost_ret (results_ct rfl _ _ gb187 30 #[.int .i8 t190, .int .i8 t191, .slice Ao31 t192.length co31] (0, 0) _ rfl (zp BK187) Try.underlying30 rfl (by kernel_rfl)) rfl ?_
 exact ⟨_, zv, Kd.R_mono (zs HO194 BK187).out (fun _ hk => trivial), zbo⟩
def laws_eqCell.l0 : Nat → Int → Int → Int → Int → Int → Option (Bool)
  | 0, _, _, _, _, _ => none
  | k + 1, x5, x196000, x196001, x197000, x197001 => if x5 < 2 then (if x5 = 0 then (if x196000 = x197000 then (laws_eqCell.l0 k (wrap64 (x5 + 1)) x196000 x196001 x197000 x197001) else (some false)) else (if x5 = 1 then (if x196001 = x197001 then (laws_eqCell.l0 k (wrap64 (x5 + 1)) x196000 x196001 x197000 x197001) else (some false)) else (none))) else (some true)
def laws_eqCell.f (k : Nat) (a0_0 : Int) (a0_1 : Int) (a1_0 : Int) (a1_1 : Int) : Option (Bool) := laws_eqCell.l0 k 0 a0_0 a0_1 a1_0 a1_1
theorem laws_eqCell.mono_l : ∀ k, (∀ y0 y1 y2 y3 y4, LeO (laws_eqCell.l0 k y0 y1 y2 y3 y4) (laws_eqCell.l0 (k + 1) y0 y1 y2 y3 y4))
  | 0 => fun _ _ _ _ _ r h => by simp [laws_eqCell.l0] at h
  | k + 1 => by
    have ih0 := laws_eqCell.mono_l k
    · intro y0 y1 y2 y3 y4
      unfold laws_eqCell.l0
      repeat' first | (with_reducible first | apply ih0 | exact LeO.refl _ | exact LeO.none _ | refine LeO.ite ?_ ?_ | refine LeO.bind ?_ (fun _ => ?_)) | apply ih0 | exact LeO.none _ | refine LeO.ite ?_ ?_ | refine LeO.bind ?_ (fun _ => ?_)
theorem laws_eqCell.mono : ∀ a0 a1 a2 a3 k, LeO (laws_eqCell.f k a0 a1 a2 a3) (laws_eqCell.f (k + 1) a0 a1 a2 a3) := by
 intro a0 a1 a2 a3 k
 have ih0 := laws_eqCell.mono_l k
 unfold laws_eqCell.f
 repeat' first | (with_reducible first | apply ih0 | exact LeO.refl _ | exact LeO.none _ | refine LeO.ite ?_ ?_ | refine LeO.bind ?_ (fun _ => ?_)) | apply ih0 | exact LeO.none _ | refine LeO.ite ?_ ?_ | refine LeO.bind ?_ (fun _ => ?_)
set_option maxHeartbeats 8000000 in
theorem laws_eqCell.calls (k : Nat) (a0_0 : Int) (a0_1 : Int) (a1_0 : Int) (a1_1 : Int) (r : Bool) (w : World) (h : laws_eqCell.f k a0_0 a0_1 a1_0 a1_1 = some r) :
    Calls Try.prog 66 #[.agg #[.int .i8 a0_0, .int .i8 a0_1], .agg #[.int .i8 a1_0, .int .i8 a1_1]] w fun e w' => e = .returned (.bool r) ∧ Below w.heap.size w w' := by
 have hu34 := Try.underlying34
 have HB := Aside0.mk (Below.refl w.heap.size w)
 have H : (laws_eqCell.l0 k 0 a0_0 a0_1 a1_0 a1_1) = some r := h
 clear h
 have H' := Aside0.mk H
 clear H
 go_enter Try.func66, Try.ntmps66
 go_wp2_with (first | ((with_reducible refine gate_dst (N := 2) rfl ?_); refine zbx 2 #[.int .i8 a0_0, .int .i8 a0_1] 34 ?_; intro gb195 hg w3 hbox hb; have n_ : _ ∧ _ ∧ _ ∧ _ := ⟨zb HB hb, Aside0.mk (hbox), zg HB hg, zg HB hg⟩; clear HB; obtain ⟨HB, BK195, GW195, GE195⟩ := n_; clear hb hbox hg) | ((with_reducible refine gate_dst (N := 3) rfl ?_); refine zbx 3 #[.int .i8 a1_0, .int .i8 a1_1] 34 ?_; intro gb196 hg w4 hbox hb; have n_ : _ ∧ _ ∧ _ ∧ _ ∧ _ ∧ _ ∧ _ := ⟨zk BK195 hb, zbs hb, Aside0.mk (hbox), zg HB hg, zg HB hg, zn1 BK195 hg, zn2 BK195 hg⟩; clear BK195 HB; obtain ⟨BK195, HB, BK196, GW196, GE196, NB195_196, NB196_195⟩ := n_; clear hb hbox hg) | go_quiet (fail))
 go_loopg [5] k (fun kq v5 w' => ∃ (x5_1 : Int), v5 = .int .i64 x5_1 ∧ Aside0 (laws_eqCell.l0 kq x5_1 a0_0 a0_1 a1_0 a1_1 = some r) ∧ Aside0 (kq ≤ k) ∧ Aside0 (w'.heap[gb195]? = some (.cells #[.int .i8 a0_0, .int .i8 a0_1] 34 (0, 0))) ∧ Aside0 (w'.heap[gb196]? = some (.cells #[.int .i8 a1_0, .int .i8 a1_1] 34 (0, 0))) ∧ Aside0 (Below w.heap.size w w'))
 case atStart => exact ⟨(0), zi, H', ⟨Nat.le_refl _⟩, zh BK195, zh BK196, zba⟩
 clear H'
 try clear p2
 obtain ⟨x5_1, rfl, HA, HK1, BK195, BK196, HB⟩ := hrel
 cases gk with
 | zero => exact absurd HA.out (by simp [laws_eqCell.l0])
 | succ k1 => ?_
 have H := HA.out
 clear HA
 simp only [laws_eqCell.l0] at H
 by_cases c5 : x5_1 < 2
 rotate_left
 ·rw [if_neg c5] at H
  have c5b0 : decide (x5_1 < 2) = false := decide_eq_false c5
  clear c5
  obtain rfl := Option.some.inj H
  go_wp2
  repeat (go_quiet (fail); try go_wp2)
  go_ret
  exact ⟨zv, zbo⟩
 rw [if_pos c5] at H
 have c5b0 : decide (x5_1 < 2) = true := decide_eq_true c5
 clear c5
 by_cases c6 : x5_1 = 0
 ·rw [if_pos c6] at H
  have Ac6 : Aside0 (x5_1 = 0) := ⟨c6⟩
  clear c6
  have ar7e : x5_1 = 0 := by first | exact (show Aside0 (x5_1 = 0) by assumption).out | exact beq_iff_eq.mp (by assumption) | omega
  have ar7n : (x5_1).toNat = 0 := by rw [ar7e]; rfl
  have ar7l : decide (0 ≤ x5_1) = true := decide_eq_true (by omega)
  have ar7L := eq_true (of_decide_eq_true ar7l)
  have ar7h : decide (x5_1 < 2) = true := decide_eq_true (by omega)
  have ar7H := eq_true (of_decide_eq_true ar7h)
  clear ar7e
  have ar8e : x5_1 = 0 := by first | exact (show Aside0 (x5_1 = 0) by assumption).out | exact beq_iff_eq.mp (by assumption) | omega
  have ar8n : (x5_1).toNat = 0 := by rw [ar8e]; rfl
  have ar8l : decide (0 ≤ x5_1) = true := decide_eq_true (by omega)
  have ar8L := eq_true (of_decide_eq_true ar8l)
  have ar8h : decide (x5_1 < 2) = true := decide_eq_true (by omega)
  have ar8H := eq_true (of_decide_eq_true ar8h)
  clear ar8e
  by_cases c9 : a0_0 = a1_0
  ·rw [if_pos c9] at H
   have c9b0 : (a0_0 == a1_0) = true := beq_iff_eq.mpr c9
   have c9b1 : (a0_0 != a1_0) = false := bne_eq_false_iff_eq.mpr c9
   clear c9
   have H' := Aside0.mk H
   clear H
   have hnb10 := NB195_196.out
   have hnc10 := NB196_195.out
   obtain ⟨z11_0, z11_1, y11_0, y11_1⟩ := zB2 BK195
   obtain ⟨z12_0, z12_1, y12_0, y12_1⟩ := zB2 BK196
   go_wp2
   repeat (go_quiet (fail); try go_wp2)
   go_roundg k1
   case measure => have := HK1.out; omega
   case rel => exact ⟨(wrap64 (x5_1 + 1)), zi, H', ⟨by have := HK1.out; omega⟩, zh BK195, zh BK196, zba⟩
  rw [if_neg c9] at H
  have c9b0 : (a0_0 == a1_0) = false := beq_eq_false_iff_ne.mpr c9
  have c9b1 : (a0_0 != a1_0) = true := bne_iff_ne.mpr c9
  obtain rfl := Option.some.inj H
  have hnb13 := NB195_196.out
  have hnc13 := NB196_195.out
  obtain ⟨z14_0, z14_1, y14_0, y14_1⟩ := zB2 BK195
  obtain ⟨z15_0, z15_1, y15_0, y15_1⟩ := zB2 BK196
  go_wp2
  repeat (go_quiet (fail); try go_wp2)
  go_ret
  exact ⟨zv, zbo⟩
 rw [if_neg c6] at H
 clear c6
 by_cases c16 : x5_1 = 1
 rotate_left
 ·rw [if_neg c16] at H
  exact absurd H (by simp)
 rw [if_pos c16] at H
 have Ac16 : Aside0 (x5_1 = 1) := ⟨c16⟩
 clear c16
 have ar17e : x5_1 = 1 := by first | exact (show Aside0 (x5_1 = 1) by assumption).out | exact beq_iff_eq.mp (by assumption) | omega
 have ar17n : (x5_1).toNat = 1 := by rw [ar17e]; rfl
 have ar17l : decide (0 ≤ x5_1) = true := decide_eq_true (by omega)
 have ar17L := eq_true (of_decide_eq_true ar17l)
 have ar17h : decide (x5_1 < 2) = true := decide_eq_true (by omega)
 have ar17H := eq_true (of_decide_eq_true ar17h)
 clear ar17e
 have ar18e : x5_1 = 1 := by first | exact (show Aside0 (x5_1 = 1) by assumption).out | exact beq_iff_eq.mp (by assumption) | omega
 have ar18n : (x5_1).toNat = 1 := by rw [ar18e]; rfl
 have ar18l : decide (0 ≤ x5_1) = true := decide_eq_true (by omega)
 have ar18L := eq_true (of_decide_eq_true ar18l)
 have ar18h : decide (x5_1 < 2) = true := decide_eq_true (by omega)
 have ar18H := eq_true (of_decide_eq_true ar18h)
 clear ar18e
 by_cases c19 : a0_1 = a1_1
 ·rw [if_pos c19] at H
  have c19b0 : (a0_1 == a1_1) = true := beq_iff_eq.mpr c19
  have c19b1 : (a0_1 != a1_1) = false := bne_eq_false_iff_eq.mpr c19
  clear c19
  have H' := Aside0.mk H
  clear H
  have hnb20 := NB195_196.out
  have hnc20 := NB196_195.out
  obtain ⟨z21_0, z21_1, y21_0, y21_1⟩ := zB2 BK195
  obtain ⟨z22_0, z22_1, y22_0, y22_1⟩ := zB2 BK196
  go_wp2
  repeat (go_quiet (fail); try go_wp2)
  go_roundg k1
  case measure => have := HK1.out; omega
  case rel => exact ⟨(wrap64 (x5_1 + 1)), zi, H', ⟨by have := HK1.out; omega⟩, zh BK195, zh BK196, zba⟩
 rw [if_neg c19] at H
 have c19b0 : (a0_1 == a1_1) = false := beq_eq_false_iff_ne.mpr c19
 have c19b1 : (a0_1 != a1_1) = true := bne_iff_ne.mpr c19
 obtain rfl := Option.some.inj H
 have hnb23 := NB195_196.out
 have hnc23 := NB196_195.out
 obtain ⟨z24_0, z24_1, y24_0, y24_1⟩ := zB2 BK195
 obtain ⟨z25_0, z25_1, y25_0, y25_1⟩ := zB2 BK196
 go_wp2
 repeat (go_quiet (fail); try go_wp2)
 go_ret
 exact ⟨zv, zbo⟩
end Go.Proofs.Ytdjhcnepndflmaa.PFnExactTakePiece
