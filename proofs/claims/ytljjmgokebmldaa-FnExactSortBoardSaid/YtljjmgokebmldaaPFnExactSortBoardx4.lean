-- WRITTEN by xprint.py, a program of this session's. Not trusted: Lean checks it.
-- packed by pack.py
import Derived.Test.YtljjmgokebmldaaPFnExactSortBoardx0
import Derived.Test.YtljjmgokebmldaaPFnExactSortBoardx2
import Derived.Test.YtljjmgokebmldaaPFnExactSortBoardx3
import Derived.Test.YtljjmgokebmldaaTFnExactSortBoarda
namespace Go.Proofs.Ytljjmgokebmldaa.PFnExactSortBoard
open Go.RowKit Go.Proofs.YtljjmgokebmldaaW.PrintWords Go.Proofs.YtljjmgokebmldaaW.PrintLast Go.Proofs.YtljjmgokebmldaaW.PrintMore Go.Proofs.YtljjmgokebmldaaX
attribute [local go_sem] max2_int min2_int max_two min_two max_three min_three max_four min_four   -- for this text's walks alone
set_option maxHeartbeats 8000000
set_option maxRecDepth 100000
set_option linter.unusedVariables false
set_option linter.unusedSimpArgs false

mutual
def spec_SortBoard.l0 : Nat → Int → Int → Int → List (S43) → Int → Int → List (S43) → Option (Int × Int × (List (S43)) × Int)
  | 0, _, _, _, _, _, _, _ => none
  | k + 1, x5, x134000, x134001, x134002, x137000, x137001, x137002 => if x5 < x134001 then (spec_SortBoard.l1 k x5 0 x134000 x134001 x134002 x137000 x137001 x137002) else (some (x137000, x137001, x137002, 0))
def spec_SortBoard.l1 : Nat → Int → Int → Int → Int → List (S43) → Int → Int → List (S43) → Option (Int × Int × (List (S43)) × Int)
  | 0, _, _, _, _, _, _, _, _ => none
  | k + 1, x5, x6, x134000, x134001, x134002, x137000, x137001, x137002 => if x6 < x134000 then ((spec_l01Find.f k [(⟨x134000, x134001, x134002⟩ : S29)] x6 x5).bind fun t137 => (if t137 ≥ 0 then (if 0 ≤ t137 then (if t137 < (x134002.length : Int) then (if x137002.length < 28147497671065 then (spec_SortBoard.l1 k x5 (IntKind.i8.wrap (x6 + 1)) x134000 x134001 x134002 x137000 x137001 (x137002 ++ [(⟨(⟨(rd_T43 x134002 t137).f0.f0, (rd_T43 x134002 t137).f0.f1⟩ : S41), (rd_T43 x134002 t137).f1, (rd_T43 x134002 t137).f2, (rd_T43 x134002 t137).f3⟩ : S43)])) else (none)) else (none)) else (none)) else (spec_SortBoard.l1 k x5 (IntKind.i8.wrap (x6 + 1)) x134000 x134001 x134002 x137000 x137001 x137002))) else (spec_SortBoard.l0 k (IntKind.i8.wrap (x5 + 1)) x134000 x134001 x134002 x137000 x137001 x137002)
end
def spec_SortBoard.f (k : Nat) (a0_0 : Int) (a0_1 : Int) (l0_2 : List (S43)) : Option (Int × Int × (List (S43)) × Int) := (spec_l01Ok.f k [(⟨a0_0, a0_1, l0_2⟩ : S29)]).bind fun t135 => (if t135 = true then (spec_SortBoard.l0 k 0 a0_0 a0_1 l0_2 a0_0 a0_1 ([] : List (S43))) else (some (0, 0, ([] : List (S43)), 1)))
theorem spec_SortBoard.mono_l : ∀ k, (∀ y0 y1 y2 y3 y4 y5 y6, LeO (spec_SortBoard.l0 k y0 y1 y2 y3 y4 y5 y6) (spec_SortBoard.l0 (k + 1) y0 y1 y2 y3 y4 y5 y6)) ∧ (∀ y0 y1 y2 y3 y4 y5 y6 y7, LeO (spec_SortBoard.l1 k y0 y1 y2 y3 y4 y5 y6 y7) (spec_SortBoard.l1 (k + 1) y0 y1 y2 y3 y4 y5 y6 y7))
  | 0 => ⟨fun _ _ _ _ _ _ _ r h => by simp [spec_SortBoard.l0] at h, fun _ _ _ _ _ _ _ _ r h => by simp [spec_SortBoard.l1] at h⟩
  | k + 1 => by
    obtain ⟨ih0, ih1⟩ := spec_SortBoard.mono_l k
    refine ⟨?_, ?_⟩
    · intro y0 y1 y2 y3 y4 y5 y6
      unfold spec_SortBoard.l0
      repeat' first | (with_reducible first | apply ih0 | apply ih1 | apply spec_l01Find.mono | apply spec_l01Ok.mono | exact LeO.refl _ | exact LeO.none _ | refine LeO.ite ?_ ?_ | refine LeO.bind ?_ (fun _ => ?_)) | apply ih0 | apply ih1 | apply spec_l01Find.mono | apply spec_l01Ok.mono | exact LeO.none _ | refine LeO.ite ?_ ?_ | refine LeO.bind ?_ (fun _ => ?_)
    · intro y0 y1 y2 y3 y4 y5 y6 y7
      unfold spec_SortBoard.l1
      repeat' first | (with_reducible first | apply ih0 | apply ih1 | apply spec_l01Find.mono | apply spec_l01Ok.mono | exact LeO.refl _ | exact LeO.none _ | refine LeO.ite ?_ ?_ | refine LeO.bind ?_ (fun _ => ?_)) | apply ih0 | apply ih1 | apply spec_l01Find.mono | apply spec_l01Ok.mono | exact LeO.none _ | refine LeO.ite ?_ ?_ | refine LeO.bind ?_ (fun _ => ?_)
theorem spec_SortBoard.mono : ∀ a0 a1 a2 k, LeO (spec_SortBoard.f k a0 a1 a2) (spec_SortBoard.f (k + 1) a0 a1 a2) := by
 intro a0 a1 a2 k
 obtain ⟨ih0, ih1⟩ := spec_SortBoard.mono_l k
 unfold spec_SortBoard.f
 repeat' first | (with_reducible first | apply ih0 | apply ih1 | apply spec_l01Find.mono | apply spec_l01Ok.mono | exact LeO.refl _ | exact LeO.none _ | refine LeO.ite ?_ ?_ | refine LeO.bind ?_ (fun _ => ?_)) | apply ih0 | apply ih1 | apply spec_l01Find.mono | apply spec_l01Ok.mono | exact LeO.none _ | refine LeO.ite ?_ ?_ | refine LeO.bind ?_ (fun _ => ?_)
def spec_SortBoard.T12 : Bool × List (List Nat × List Nat) := (true, [([], []), ([0], [0]), ([], []), ([2], [2]), ([], []), ([3, 4], [3, 4]), ([5], [5]), ([6], [6]), ([1, 7], [1, 7]), ([0, 1, 2, 3, 4, 5, 6, 7, 8], []), ([9, 8, 8, 0, 1, 2, 3, 4, 5, 6, 7, 8], [8, 9])])
def spec_SortBoard.B12 : List Nat := [0, 1, 0, 4, 0, 28, 60, 124, 255, 511, 1023]
theorem spec_SortBoard.tab12 : rtab .any (opsOf Try.f5 12) = spec_SortBoard.T12 := by kernel_rfl
theorem spec_SortBoard.bits12 : waitsOk spec_SortBoard.T12.2 spec_SortBoard.B12 = true := by kernel_rfl
theorem spec_SortBoard.calls (k : Nat) (a0_0 : Int) (a0_1 : Int) (A0_2 : Option Addr) (c0_2 : Nat) (l0_2 : List (S43)) (r1 : Int) (r2 : Int) (r3 : List (S43)) (r4 : Int) (w : World) (hr0_2 : Kd.C k43 w A0_2 l0_2.length l0_2) (hc0_2 : l0_2.length ≤ c0_2) (h : spec_SortBoard.f k a0_0 a0_1 l0_2 = some (r1, r2, r3, r4)) :
    Calls Try.prog 5 #[.agg #[.int .i8 a0_0, .int .i8 a0_1, .slice A0_2 l0_2.length c0_2]] w fun e w' => ∃ v2_ : Value, e = .returned (.tuple #[.agg #[.int .i8 r1, .int .i8 r2, v2_], .int .i64 r4]) ∧ Kd.R k43 43 w' w.heap.size (fun _ => True) v2_ r3 ∧ Below w.heap.size w w' := by
 have hu29 := Try.underlying29
 have hu41 := Try.underlying41
 have hu43 := Try.underlying43
 have HR0_2 := Aside0.mk hr0_2
 have HC0_2 := Aside0.mk hc0_2
 clear hr0_2 hc0_2
 have HB := Aside0.mk (Below.refl w.heap.size w)
 have H : ((spec_l01Ok.f k [(⟨a0_0, a0_1, l0_2⟩ : S29)]).bind fun t135 => (if t135 = true then (spec_SortBoard.l0 k 0 a0_0 a0_1 l0_2 a0_0 a0_1 ([] : List (S43))) else (some (0, 0, ([] : List (S43)), 1)))) = some (r1, r2, r3, r4) := h
 clear h
 replace H := zob H
 obtain ⟨t135, A20, H⟩ := H
 replace H : (if t135 = true then (spec_SortBoard.l0 k 0 a0_0 a0_1 l0_2 a0_0 a0_1 ([] : List (S43))) else (some (0, 0, ([] : List (S43)), 1))) = some (r1, r2, r3, r4) := H
 have A2 := Aside0.mk A20
 clear A20
 by_cases c3 : t135 = true
 rotate_left
 ·replace c3 := Bool.eq_false_iff.mpr c3
  subst c3
  have H1 : (some (0, 0, ([] : List (S43)), 1)) = some (r1, r2, r3, r4) := by rw [if_neg (show ¬ (false = true) by decide)] at H; exact H
  clear H
  have H := H1
  clear H1
  simp only [Option.some.injEq, Prod.mk.injEq] at H
  obtain ⟨rfl, rfl, rfl, rfl⟩ := H
  go_enter Try.func5, Try.ntmps5
  go_wp2_with (first | ((with_reducible refine gate_dst (N := 1) rfl ?_); refine zbx 1 #[.int .i8 a0_0, .int .i8 a0_1, .slice A0_2 l0_2.length c0_2] 29 ?_; intro gb133 hg w45 hbox hb; have n_ : _ ∧ _ ∧ _ ∧ _ := ⟨zb HB hb, Aside0.mk (hbox), zg HB hg, zg HB hg⟩; clear HB; obtain ⟨HB, BK133, GW133, GE133⟩ := n_; clear hb hbox hg) | ((with_reducible refine gate_dst (N := 2) rfl ?_); refine zbx 2 #[.int .i8 0, .int .i8 0, .slice none 0 0] 29 ?_; intro gb134 hg w46 hbox hb; have n_ : _ ∧ _ ∧ _ ∧ _ ∧ _ ∧ _ ∧ _ := ⟨zk BK133 hb, zbs hb, Aside0.mk (hbox), zg HB hg, zg HB hg, zn1 BK133 hg, zn2 BK133 hg⟩; clear BK133 HB; obtain ⟨BK133, HB, BK134, GW134, GE134, NB133_134, NB134_133⟩ := n_; clear hb hbox hg) | ((with_reducible refine gate_callee (f := 12) rfl ?_); refine goesL_ (some 8) rfl rfl Try.func12 (by kernel_rfl) rfl #[.pointer (some ⟨gb133, 0, none⟩)] rfl zm ?_; (with_reducible refine (spec_l01Ok.calls k _ [(⟨a0_0, a0_1, l0_2⟩ : S29)] false _ ?side1 A2.out).mono ?_); (case side1 => refine ro_of_blk (T := 29) (cs := #[.int .i8 a0_0, .int .i8 a0_1, .slice A0_2 l0_2.length c0_2]) (zh BK133).out ?_; exact k29_mk _ (⟨a0_0, a0_1, l0_2⟩ : S29) (by exact HC0_2.out) (by exact zcc HB HR0_2.out)); rintro e w47 ⟨rfl, hb⟩; refine ⟨_, rfl, ?_⟩; have n_ : _ ∧ _ ∧ _ := ⟨zk BK133 hb, zk BK134 hb, zbs hb⟩; clear BK133 BK134 HB; obtain ⟨BK133, BK134, HB⟩ := n_; (try clear hb); (try clear hb2); (try clear hk); (try clear hi); have hnb48 := NB134_133.out; have hnc48 := NB133_134.out; obtain ⟨z49_0, z49_1, z49_2, y49_0, y49_1, y49_2⟩ := zB3 BK134))
  refine bodyPost_ret (results_ct rfl _ _ gb134 29 #[.int .i8 0, .int .i8 0, .slice none 0 0] (0, 0) _ rfl (zp BK134) Try.underlying29 rfl (by kernel_rfl)) rfl ?_
  exact ⟨_, zv, by first | exact Kd.R_nil _ _ _ _ _ | exact Kd.N_nil _ _ _ _ _ | exact Kd.V_nil _ _ _ _ _ | exact Kd.Q_nil _ _ _ _ _ | exact Kd.S_nil _ _ _ _ _, zbo⟩
 subst c3
 have H1 : (spec_SortBoard.l0 k 0 a0_0 a0_1 l0_2 a0_0 a0_1 ([] : List (S43))) = some (r1, r2, r3, r4) := by rw [if_pos rfl] at H; exact H
 clear H
 have H := H1
 clear H1
 have H' := Aside0.mk H
 clear H
 go_enter Try.func5, Try.ntmps5
 go_wp2_with (first | ((with_reducible refine gate_dst (N := 1) rfl ?_); refine zbx 1 #[.int .i8 a0_0, .int .i8 a0_1, .slice A0_2 l0_2.length c0_2] 29 ?_; intro gb133 hg w4 hbox hb; have n_ : _ ∧ _ ∧ _ ∧ _ := ⟨zb HB hb, Aside0.mk (hbox), zg HB hg, zg HB hg⟩; clear HB; obtain ⟨HB, BK133, GW133, GE133⟩ := n_; clear hb hbox hg) | ((with_reducible refine gate_dst (N := 2) rfl ?_); refine zbx 2 #[.int .i8 0, .int .i8 0, .slice none 0 0] 29 ?_; intro gb134 hg w5 hbox hb; have n_ : _ ∧ _ ∧ _ ∧ _ ∧ _ ∧ _ ∧ _ := ⟨zk BK133 hb, zbs hb, Aside0.mk (hbox), zg HB hg, zg HB hg, zn1 BK133 hg, zn2 BK133 hg⟩; clear BK133 HB; obtain ⟨BK133, HB, BK134, GW134, GE134, NB133_134, NB134_133⟩ := n_; clear hb hbox hg) | ((with_reducible refine gate_callee (f := 12) rfl ?_); refine goesL_ (some 8) rfl rfl Try.func12 (by kernel_rfl) rfl #[.pointer (some ⟨gb133, 0, none⟩)] rfl zm ?_; (with_reducible refine (spec_l01Ok.calls k _ [(⟨a0_0, a0_1, l0_2⟩ : S29)] true _ ?side1 A2.out).mono ?_); (case side1 => refine ro_of_blk (T := 29) (cs := #[.int .i8 a0_0, .int .i8 a0_1, .slice A0_2 l0_2.length c0_2]) (zh BK133).out ?_; exact k29_mk _ (⟨a0_0, a0_1, l0_2⟩ : S29) (by exact HC0_2.out) (by exact zcc HB HR0_2.out)); rintro e w6 ⟨rfl, hb⟩; refine ⟨_, rfl, ?_⟩; have n_ : _ ∧ _ ∧ _ := ⟨zk BK133 hb, zk BK134 hb, zbs hb⟩; clear BK133 BK134 HB; obtain ⟨BK133, BK134, HB⟩ := n_; (try clear hb); (try clear hb2); (try clear hk); (try clear hi); have hnb7 := NB133_134.out; have hnc7 := NB134_133.out; obtain ⟨z8_0, z8_1, z8_2, y8_0, y8_1, y8_2⟩ := zB3 BK133) | ((with_reducible refine gate_dst (N := 4) rfl ?_); refine zbx 4 #[.int .i8 0, .int .i8 0, .slice none 0 0] 29 ?_; intro gb136 hg w9 hbox hb; have n_ : _ ∧ _ ∧ _ ∧ _ ∧ _ ∧ _ ∧ _ ∧ _ ∧ _ ∧ _ := ⟨zk BK133 hb, zk BK134 hb, zbs hb, Aside0.mk (hbox), zg HB hg, zg HB hg, zn1 BK133 hg, zn2 BK133 hg, zn1 BK134 hg, zn2 BK134 hg⟩; clear BK133 BK134 HB; obtain ⟨BK133, BK134, HB, BK136, GW136, GE136, NB133_136, NB136_133, NB134_136, NB136_134⟩ := n_; clear hb hbox hg; have hnb10 := NB136_133.out; have hnc10 := NB133_136.out; have hnb11 := NB136_134.out; have hnc11 := NB134_136.out; obtain ⟨z12_0, z12_1, z12_2, y12_0, y12_1, y12_2⟩ := zB3 BK136))
 go_loopg [5] k (fun kq v5 w' => ∃ (x5_1 : Int) (x137002_1 : List (S43)) (u137002 : Value), v5 = .int .i8 x5_1 ∧ Aside0 (spec_SortBoard.l0 kq x5_1 a0_0 a0_1 l0_2 a0_0 a0_1 x137002_1 = some (r1, r2, r3, r4)) ∧ Aside0 (kq ≤ k) ∧ Aside0 (Kd.R k43 43 w' w.heap.size (fun _ => True) u137002 x137002_1) ∧ Aside0 (w'.heap[gb133]? = some (.cells #[.int .i8 a0_0, .int .i8 a0_1, (.slice A0_2 l0_2.length c0_2)] 29 (0, 0))) ∧ Aside0 (w'.heap[gb134]? = some (.cells #[.int .i8 0, .int .i8 0, (.slice none 0 0)] 29 (0, 0))) ∧ Aside0 (w'.heap[gb136]? = some (.cells #[.int .i8 a0_0, .int .i8 a0_1, u137002] 29 (0, 0))) ∧ Aside0 (Below w.heap.size w w'))
 case atStart => exact ⟨(0), (([] : List (S43))), (.slice none 0 0), zi, H', ⟨Nat.le_refl _⟩, ⟨by first | exact Kd.R_nil _ _ _ _ _ | exact Kd.N_nil _ _ _ _ _ | exact Kd.V_nil _ _ _ _ _ | exact Kd.Q_nil _ _ _ _ _ | exact Kd.S_nil _ _ _ _ _⟩, zf BK133 NB133_136, zf BK134 NB134_136, ⟨zp BK136⟩, zba⟩
 clear H'
 try clear c1
 try clear p2
 try clear c3
 try clear c5
 try clear c7
 try clear c10
 try clear c11
 try clear c12
 try clear z12_0 z12_1 z12_2
 try clear z8_0 z8_1 z8_2
 try clear y12_0
 try clear y12_1
 try clear y12_2
 try clear y8_0
 try clear y8_1
 try clear y8_2
 obtain ⟨x5_1, x137002_1, u137002, rfl, HA, HK1, HO_137002, BK133, BK134, BK136, HB⟩ := hrel
 cases gk with
 | zero => exact absurd HA.out (by simp [spec_SortBoard.l0])
 | succ k1 => ?_
 have H := HA.out
 clear HA
 simp only [spec_SortBoard.l0] at H
 by_cases c13 : x5_1 < a0_1
 rotate_left
 ·rw [if_neg c13] at H
  have c13b0 : decide (x5_1 < a0_1) = false := decide_eq_false c13
  clear c13
  simp only [Option.some.injEq, Prod.mk.injEq] at H
  obtain ⟨rfl, rfl, rfl, rfl⟩ := H
  have hnb38 := NB133_134.out
  have hnc38 := NB134_133.out
  have hnb39 := NB133_136.out
  have hnc39 := NB136_133.out
  obtain ⟨z40_0, z40_1, z40_2, y40_0, y40_1, y40_2⟩ := zB3 BK133
  have hnb41 := NB136_134.out
  have hnc41 := NB134_136.out
  obtain ⟨z42_0, z42_1, z42_2, y42_0, y42_1, y42_2⟩ := zB3 BK136
  obtain ⟨z43_0, z43_1, z43_2, y43_0, y43_1, y43_2⟩ := zB3 BK134
  obtain ⟨Ao44, co44, eo44⟩ := Kd.R_slice HO_137002.out
  subst eo44
  go_wp2
  refine bodyPost_ret (results_ct rfl _ _ gb134 29 #[.int .i8 a0_0, .int .i8 a0_1, .slice Ao44 x137002_1.length co44] (0, 0) _ rfl (zp BK134) Try.underlying29 rfl (by kernel_rfl)) rfl ?_
  exact ⟨_, zv, Kd.R_mono (zs HO_137002 BK134).out (fun _ hk => trivial), zbo⟩
 rw [if_pos c13] at H
 have c13b0 : decide (x5_1 < a0_1) = true := decide_eq_true c13
 clear c13
 have H' := Aside0.mk H
 clear H
 have hnb14 := NB133_134.out
 have hnc14 := NB134_133.out
 have hnb15 := NB133_136.out
 have hnc15 := NB136_133.out
 obtain ⟨z16_0, z16_1, z16_2, y16_0, y16_1, y16_2⟩ := zB3 BK133
 go_wp2
 go_loopg [6] k1 (fun kq v6 w' => ∃ (x6_2 : Int) (x137002_2 : List (S43)) (u137002 : Value), v6 = .int .i8 x6_2 ∧ Aside0 (spec_SortBoard.l1 kq x5_1 x6_2 a0_0 a0_1 l0_2 a0_0 a0_1 x137002_2 = some (r1, r2, r3, r4)) ∧ Aside0 (kq ≤ k1) ∧ Aside0 (Kd.R k43 43 w' w.heap.size (fun _ => True) u137002 x137002_2) ∧ Aside0 (w'.heap[gb133]? = some (.cells #[.int .i8 a0_0, .int .i8 a0_1, (.slice A0_2 l0_2.length c0_2)] 29 (0, 0))) ∧ Aside0 (w'.heap[gb134]? = some (.cells #[.int .i8 0, .int .i8 0, (.slice none 0 0)] 29 (0, 0))) ∧ Aside0 (w'.heap[gb136]? = some (.cells #[.int .i8 a0_0, .int .i8 a0_1, u137002] 29 (0, 0))) ∧ Aside0 (Below w.heap.size w w'))
 case atStart => exact ⟨(0), (x137002_1), (u137002), zi, H', ⟨Nat.le_refl _⟩, ze HO_137002, zh BK133, zh BK134, zh BK136, zba⟩
 clear H'
 try clear c1
 try clear p2
 try clear c3
 try clear c5
 try clear c7
 try clear c10
 try clear c11
 try clear c12
 try clear c13
 try clear c13b0
 try clear c14
 try clear c15
 try clear z12_0 z12_1 z12_2
 try clear z16_0 z16_1 z16_2
 try clear z8_0 z8_1 z8_2
 try clear y12_0
 try clear y12_1
 try clear y12_2
 try clear y16_0
 try clear y16_1
 try clear y16_2
 try clear y8_0
 try clear y8_1
 try clear y8_2
 try clear p2
 obtain ⟨x6_2, x137002_2, u137002, rfl, HA, HK2, HO_137002, BK133, BK134, BK136, HB⟩ := hrel
 cases gk with
 | zero => exact absurd HA.out (by simp [spec_SortBoard.l1])
 | succ k2 => ?_
 have H := HA.out
 clear HA
 simp only [spec_SortBoard.l1] at H
 by_cases c17 : x6_2 < a0_0
 rotate_left
 ·rw [if_neg c17] at H
  have c17b0 : decide (x6_2 < a0_0) = false := decide_eq_false c17
  clear c17
  have H' := Aside0.mk H
  clear H
  have hnb35 := NB133_134.out
  have hnc35 := NB134_133.out
  have hnb36 := NB133_136.out
  have hnc36 := NB136_133.out
  obtain ⟨z37_0, z37_1, z37_2, y37_0, y37_1, y37_2⟩ := zB3 BK133
  go_wp2
  go_roundg k2
  case measure => have := HK1.out; have := HK2.out; omega
  case rel => exact ⟨(IntKind.i8.wrap (x5_1 + 1)), (x137002_2), (u137002), zi, H', ⟨by have := HK1.out; have := HK2.out; omega⟩, ze HO_137002, zh BK133, zh BK134, zh BK136, zba⟩
 rw [if_pos c17] at H
 have c17b0 : decide (x6_2 < a0_0) = true := decide_eq_true c17
 clear c17
 replace H := zob H
 obtain ⟨t137, A180, H⟩ := H
 replace H : (if t137 ≥ 0 then (if 0 ≤ t137 then (if t137 < (l0_2.length : Int) then (if x137002_2.length < 28147497671065 then (spec_SortBoard.l1 k2 x5_1 (IntKind.i8.wrap (x6_2 + 1)) a0_0 a0_1 l0_2 a0_0 a0_1 (x137002_2 ++ [(⟨(⟨(rd_T43 l0_2 t137).f0.f0, (rd_T43 l0_2 t137).f0.f1⟩ : S41), (rd_T43 l0_2 t137).f1, (rd_T43 l0_2 t137).f2, (rd_T43 l0_2 t137).f3⟩ : S43)])) else (none)) else (none)) else (none)) else (spec_SortBoard.l1 k2 x5_1 (IntKind.i8.wrap (x6_2 + 1)) a0_0 a0_1 l0_2 a0_0 a0_1 x137002_2)) = some (r1, r2, r3, r4) := H
 have A18 := Aside0.mk A180
 clear A180
 by_cases c19 : t137 ≥ 0
 rotate_left
 ·rw [if_neg c19] at H
  have c19b0 : decide (0 ≤ t137) = false := decide_eq_false c19
  clear c19
  have H' := Aside0.mk H
  clear H
  have hnb31 := NB133_134.out
  have hnc31 := NB134_133.out
  have hnb32 := NB133_136.out
  have hnc32 := NB136_133.out
  obtain ⟨z33_0, z33_1, z33_2, y33_0, y33_1, y33_2⟩ := zB3 BK133
  go_wp2_with (first | ((with_reducible refine gate_callee (f := 13) rfl ?_); refine goesL_ (some 31) rfl rfl Try.func13 (by kernel_rfl) rfl #[.pointer (some ⟨gb133, 0, none⟩), .agg #[.int .i8 x6_2, .int .i8 x5_1]] rfl zm ?_; (with_reducible refine (spec_l01Find.calls k2 _ [(⟨a0_0, a0_1, l0_2⟩ : S29)] x6_2 x5_1 t137 _ ?side1 A18.out).mono ?_); (case side1 => refine ro_of_blk (T := 29) (cs := #[.int .i8 a0_0, .int .i8 a0_1, .slice A0_2 l0_2.length c0_2]) (zh BK133).out ?_; exact k29_mk _ (⟨a0_0, a0_1, l0_2⟩ : S29) (by exact HC0_2.out) (by exact zcc HB HR0_2.out)); rintro e w34 ⟨rfl, hb⟩; refine ⟨_, rfl, ?_⟩; have n_ : _ ∧ _ ∧ _ ∧ _ ∧ _ := ⟨zr HO_137002 hb, zk BK133 hb, zk BK134 hb, zk BK136 hb, zbs hb⟩; clear HO_137002 BK133 BK134 BK136 HB; obtain ⟨HO_137002, BK133, BK134, BK136, HB⟩ := n_; (try clear hb); (try clear hb2); (try clear hk); (try clear hi)))
  go_roundg k2
  case measure => have := HK1.out; have := HK2.out; omega
  case rel => exact ⟨(IntKind.i8.wrap (x6_2 + 1)), (x137002_2), (u137002), zi, H', ⟨by have := HK1.out; have := HK2.out; omega⟩, ze HO_137002, zh BK133, zh BK134, zh BK136, zba⟩
 rw [if_pos c19] at H
 have c19b0 : decide (0 ≤ t137) = true := decide_eq_true c19
 clear c19
 by_cases c20 : 0 ≤ t137
 rotate_left
 ·rw [if_neg c20] at H
  exact absurd H (by simp)
 rw [if_pos c20] at H
 have c20b0 : decide (0 ≤ t137) = true := decide_eq_true c20
 clear c20
 by_cases c21 : t137 < (l0_2.length : Int)
 rotate_left
 ·rw [if_neg c21] at H
  exact absurd H (by simp)
 rw [if_pos c21] at H
 have c21b0 : decide (t137 < (l0_2.length : Int)) = true := decide_eq_true c21
 clear c21
 by_cases c22 : x137002_2.length < 28147497671065
 rotate_left
 ·rw [if_neg c22] at H
  exact absurd H (by simp)
 rw [if_pos c22] at H
 have LMc22 := Aside0.mk c22
 clear c22
 obtain ⟨y139, hy139⟩ : ∃ y_ : List (S43), y_ = (x137002_2 ++ [(⟨(⟨(rd_T43 l0_2 t137).f0.f0, (rd_T43 l0_2 t137).f0.f1⟩ : S41), (rd_T43 l0_2 t137).f1, (rd_T43 l0_2 t137).f2, (rd_T43 l0_2 t137).f3⟩ : S43)]) := ⟨_, rfl⟩
 replace H : (spec_SortBoard.l1 k2 x5_1 (IntKind.i8.wrap (x6_2 + 1)) a0_0 a0_1 l0_2 a0_0 a0_1 y139) = some (r1, r2, r3, r4) := by first | (rw [hy139]; with_reducible exact H) | (have H2_ := (Option.bind_some _ _).symm.trans H; rw [hy139]; with_reducible exact H2_) | (have H2_ := (Option.bind_some _ _).symm.trans H; with_reducible exact H2_) | with_reducible exact H | (rw [hy139]; exact H) | exact H
 have Ny139 := Aside0.mk hy139
 clear hy139
 have H' := Aside0.mk H
 clear H
 have hnb23 := NB133_134.out
 have hnc23 := NB134_133.out
 have hnb24 := NB133_136.out
 have hnc24 := NB136_133.out
 obtain ⟨z25_0, z25_1, z25_2, y25_0, y25_1, y25_2⟩ := zB3 BK133
 try go_wp2_with (first | ((with_reducible refine gate_callee (f := 13) rfl ?_); refine goesL_ (some 31) rfl rfl Try.func13 (by kernel_rfl) rfl #[.pointer (some ⟨gb133, 0, none⟩), .agg #[.int .i8 x6_2, .int .i8 x5_1]] rfl zm ?_; (with_reducible refine (spec_l01Find.calls k2 _ [(⟨a0_0, a0_1, l0_2⟩ : S29)] x6_2 x5_1 t137 _ ?side1 A18.out).mono ?_); (case side1 => refine ro_of_blk (T := 29) (cs := #[.int .i8 a0_0, .int .i8 a0_1, .slice A0_2 l0_2.length c0_2]) (zh BK133).out ?_; exact k29_mk _ (⟨a0_0, a0_1, l0_2⟩ : S29) (by exact HC0_2.out) (by exact zcc HB HR0_2.out)); rintro e w26 ⟨rfl, hb⟩; refine ⟨_, rfl, ?_⟩; have n_ : _ ∧ _ ∧ _ ∧ _ ∧ _ := ⟨zr HO_137002 hb, zk BK133 hb, zk BK134 hb, zk BK136 hb, zbs hb⟩; clear HO_137002 BK133 BK134 BK136 HB; obtain ⟨HO_137002, BK133, BK134, BK136, HB⟩ := n_; (try clear hb); (try clear hb2); (try clear hk); (try clear hi)))
 have n_ : _ ∧ _ ∧ _ ∧ _ ∧ _ := ⟨Aside0.mk (Kd.R_drew HO_137002.out), Aside0.mk (blk_drew BK133.out), Aside0.mk (blk_drew BK134.out), Aside0.mk (blk_drew BK136.out), Aside0.mk (below_drew1 HB.out)⟩
 clear HO_137002 BK133 BK134 BK136 HB
 obtain ⟨HO_137002, BK133, BK134, BK136, HB⟩ := n_
 have p138 : 0 ≤ (t137 : Int) := of_decide_eq_true zA
 have q138 : t137 < (l0_2.length : Int) := of_decide_eq_true zA
 obtain ⟨ad138, e138, hx138_0, hx138_1, hx138_2, hx138_3, hx138_4⟩ := at_T43 HR0_2.out t137 p138 q138
 have hw138_4 := hx138_4
 have hw138_3 := hx138_3
 have hw138_2 := hx138_2
 have hw138_1 := hx138_1
 have hw138_0 := hx138_0
 cases e138
 replace hx138_0 := zc HB hx138_0
 replace hx138_1 := zc HB hx138_1
 replace hx138_2 := zc HB hx138_2
 replace hx138_3 := zc HB hx138_3
 replace hx138_4 := zc HB hx138_4
 replace p138 := eq_true p138
 replace q138 := eq_true q138
 refine start_ (n := 11) (S := fun w' => w'.cell? ⟨gb136, 0, none⟩ = some (.int .i8 a0_0) ∧ w'.cell? ⟨gb136, 1, none⟩ = some (.int .i8 a0_1) ∧ w'.cell? ⟨gb136, 2, none⟩ = some (u137002) ∧ w'.cell? ⟨gb133, 0, none⟩ = some (.int .i8 a0_0) ∧ w'.cell? ⟨gb133, 1, none⟩ = some (.int .i8 a0_1) ∧ w'.cell? ⟨gb133, 2, none⟩ = some (.slice (some ad138) l0_2.length c0_2) ∧ w'.cell? (ad138.add ((t137).toNat * 5)) = some (.int .i8 ((rd_T43 l0_2 t137).f0.f0)) ∧ w'.cell? ⟨(ad138.add ((t137).toNat * 5)).block, (ad138.add ((t137).toNat * 5)).off + 1, none⟩ = some (.int .i8 ((rd_T43 l0_2 t137).f0.f1)) ∧ w'.cell? ⟨(ad138.add ((t137).toNat * 5)).block, (ad138.add ((t137).toNat * 5)).off + 2, none⟩ = some (.int .i8 ((rd_T43 l0_2 t137).f1)) ∧ w'.cell? ⟨(ad138.add ((t137).toNat * 5)).block, (ad138.add ((t137).toNat * 5)).off + 3, none⟩ = some (.int .i8 ((rd_T43 l0_2 t137).f2)) ∧ w'.cell? ⟨(ad138.add ((t137).toNat * 5)).block, (ad138.add ((t137).toNat * 5)).off + 4, none⟩ = some (.int .i8 ((rd_T43 l0_2 t137).f3))) (ds := [10]) (zq 11 0) (by kernel_rfl) rfl rfl ⟨(blk_cell BK136.out 0).trans rfl, (blk_cell BK136.out 1).trans rfl, (blk_cell BK136.out 2).trans rfl, (blk_cell BK133.out 0).trans rfl, (blk_cell BK133.out 1).trans rfl, (blk_cell BK133.out 2).trans rfl, (zc HB hw138_0), (zc HB hw138_1), (zc HB hw138_2), (zc HB hw138_3), (zc HB hw138_4)⟩ (fun hHeld => ?_); refine with_tabW spec_SortBoard.tab12 spec_SortBoard.bits12 (fun HT_ HW_ => ?_)
 generalize w26.drew = w27 at HO_137002 BK133 BK134 BK136 HB hx138_0 hx138_1 hx138_2 hx138_3 hx138_4 hHeld ⊢
 refine zpu 0 (some 34) (zq 11 1) HT_ ?_
 refine zpu 2 (some 36) (zq 11 5) HT_ ?_
 refine zpu 4 (some 38) (zq 11 21) HT_ ?_
 refine ztk 1 (some 35) (zq 11 23) HT_ HW_ rfl hHeld (Or.inl ⟨by rfl, by (rintro w' ⟨s0, s1, s2, s3, s4, s5, s6, s7, s8, s9, s10⟩; go_simp; with_reducible rfl)⟩) ?_
 refine ztk 3 (some 37) (zq 11 31) HT_ HW_ rfl hHeld (Or.inl ⟨by rfl, by (rintro w' ⟨s0, s1, s2, s3, s4, s5, s6, s7, s8, s9, s10⟩; go_simp; with_reducible rfl)⟩) ?_
 refine zpu 5 (some 39) (zq 11 63) HT_ ?_
 refine ztk 6 (some 40) (zq 11 127) HT_ HW_ rfl hHeld (Or.inl ⟨by rfl, by (rintro w' ⟨s0, s1, s2, s3, s4, s5, s6, s7, s8, s9, s10⟩; go_simp; with_reducible rfl)⟩) ?_
 refine one_ (i := 7) (N := some 41) (zq 11 255) rfl rfl (one_of HT_.out (by kernel_rfl)) (by decide) (fun K hK => ?_)
 refine value_ (w1 := ?_) (v := ?_) (by rfl) rfl ?_ ?_
 rotate_left 2
 ·go_simp
  constructor
  rotate_left
  ·rfl
  rfl
 refine hK.out _ _ ⟨(blk_cell (blk_alloc BK136.out _) 0).trans rfl, (blk_cell (blk_alloc BK136.out _) 1).trans rfl, (blk_cell (blk_alloc BK136.out _) 2).trans rfl, (blk_cell (blk_alloc BK133.out _) 0).trans rfl, (blk_cell (blk_alloc BK133.out _) 1).trans rfl, (blk_cell (blk_alloc BK133.out _) 2).trans rfl, (World.cell?_alloc_lt _ _ _ (World.block_lt_of_cell? _ _ ((zc HB hw138_0)))).trans ((zc HB hw138_0)), (World.cell?_alloc_lt _ _ _ (World.block_lt_of_cell? _ _ ((zc HB hw138_1)))).trans ((zc HB hw138_1)), (World.cell?_alloc_lt _ _ _ (World.block_lt_of_cell? _ _ ((zc HB hw138_2)))).trans ((zc HB hw138_2)), (World.cell?_alloc_lt _ _ _ (World.block_lt_of_cell? _ _ ((zc HB hw138_3)))).trans ((zc HB hw138_3)), (World.cell?_alloc_lt _ _ _ (World.block_lt_of_cell? _ _ ((zc HB hw138_4)))).trans ((zc HB hw138_4))⟩ (fun hHeld => ?_)
 clear hK K
 refine norm_ (a' := ?_) ?_ ?_
 rotate_left
 ·show Act.put _ (some 41) _ = _
  exact zap
 refine one_ (i := 8) (N := some 42) (zq 11 511) rfl rfl (one_of HT_.out (by kernel_rfl)) (by decide) (fun K hK => ?_)
 refine Kd.R_append_step k43 (w0 := w) w.heap.size (by rfl) (.tmp 35) (.tmp 41) 27 43 (.agg #[(.int .i8 0), (.int .i8 0), (.int .i8 0), (.int .i8 0), (.int .i8 0)]) 5 rfl Try.underlying27 info43 rfl (by decide) (by omega) u137002 x137002_2 (⟨(⟨(rd_T43 l0_2 t137).f0.f0, (rd_T43 l0_2 t137).f0.f1⟩ : S41), (rd_T43 l0_2 t137).f1, (rd_T43 l0_2 t137).f2, (rd_T43 l0_2 t137).f3⟩ : S43) [.int .i8 ((rd_T43 l0_2 t137).f0.f0), .int .i8 ((rd_T43 l0_2 t137).f0.f1), .int .i8 ((rd_T43 l0_2 t137).f1), .int .i8 ((rd_T43 l0_2 t137).f2), .int .i8 ((rd_T43 l0_2 t137).f3)] (fun _ => True) (fun _ => False) rfl rfl ?aP (fun _ hk => hk.elim) ?aF ?aO ?aB ?aS ?aL ?_
 (case aP => exact k43_mkM _ _ _ (⟨(⟨(rd_T43 l0_2 t137).f0.f0, (rd_T43 l0_2 t137).f0.f1⟩ : S41), (rd_T43 l0_2 t137).f1, (rd_T43 l0_2 t137).f2, (rd_T43 l0_2 t137).f3⟩ : S43))
 (case aB => exact zbo)
 (case aF => exact (fun _ _ => trivial))
 (case aO => exact (ze HO_137002).out)
 (case aS => exact (zz HB))
 (case aL => have := LMc22.out; omega)
 intro v140 w28 ho hb hg hat
 rw [← Ny139.out] at ho
 have n_ : _ ∧ _ ∧ _ ∧ _ ∧ _ := ⟨Aside0.mk (blk_grown (g := gb133) (o := .cells #[.int .i8 a0_0, .int .i8 a0_1, .slice (some ad138) l0_2.length c0_2] 29 (0, 0)) (zh BK133).out hg (Kd.R_ne HO_137002.out BK133.out (by decide))), Aside0.mk (blk_grown (g := gb134) (o := .cells #[.int .i8 0, .int .i8 0, .slice none 0 0] 29 (0, 0)) (zh BK134).out hg (Kd.R_ne HO_137002.out BK134.out (by decide))), Aside0.mk (blk_grown (g := gb136) (o := .cells #[.int .i8 a0_0, .int .i8 a0_1, u137002] 29 (0, 0)) (zh BK136).out hg (Kd.R_ne HO_137002.out BK136.out (by decide))), Aside0.mk (hb), Aside0.mk (ho)⟩
 clear BK133 BK134 BK136 HB HO_137002
 obtain ⟨BK133, BK134, BK136, HB, HO141⟩ := n_
 clear ho hb hg hat
 obtain ⟨Ao29, co29, eo29⟩ := Kd.R_slice HO141.out
 (first | subst eo29 | (injection eo29 with f1_ f2_ f3_; have f4_ := f1_.symm; have f5_ := f3_.symm; clear f1_ f2_ f3_; subst f4_; subst f5_))
 refine hK.out _ _ ⟨(blk_cell BK136.out 0).trans rfl, (blk_cell BK136.out 1).trans rfl, (blk_cell BK136.out 2).trans rfl, (blk_cell BK133.out 0).trans rfl, (blk_cell BK133.out 1).trans rfl, (blk_cell BK133.out 2).trans rfl, (zc HB hw138_0), (zc HB hw138_1), (zc HB hw138_2), (zc HB hw138_3), (zc HB hw138_4)⟩ (fun hHeld => ?_)
 clear hK K
 refine norm_ (a' := ?_) ?_ ?_
 rotate_left
 ·show Act.put _ (some 42) _ = _
  exact zap
 refine zpu 9 (some 43) (zq 11 1023) HT_ ?_
 refine last_ (i := 10) (N := none) (zq 11 2047) rfl rfl (one_of HT_.out (by kernel_rfl)) (by decide) (fun K hK => ?_)
 have hs30 : w28.cell? ⟨gb136, 2, none⟩ = some (u137002) := (blk_cell BK136.out 2).trans rfl
 have hfs30 := blk_frozen BK136.out 2
 have hns30_0 := NB133_136.out
 have hns30_1 := NB134_136.out
 have hms30_0 := NB136_133.out
 have hms30_1 := NB136_134.out
 refine skip_ (w1 := ?_) (by rfl) rfl ?_ ?_
 rotate_left
 ·go_simp
  rfl
 refine hK.out _ _ ?_
 clear hK K
 refine done_ (done_of HT_.out (by kernel_rfl)) ?_
 try go_wp2
 go_roundg k2
 case measure => have := HK1.out; have := HK2.out; omega
 case rel => exact ⟨(IntKind.i8.wrap (x6_2 + 1)), (y139), (.slice Ao29 y139.length co29), zi, H', ⟨by have := HK1.out; have := HK2.out; omega⟩, ⟨Kd.R_mono (zs HO141 BK136).out (fun _ hk => trivial)⟩, zf BK133 NB133_136, zf BK134 NB134_136, ⟨zp BK136⟩, zba⟩
def laws_toCell.l0 : Nat → Int → Int → Int → Int → Int → Option (Int × Int)
  | 0, _, _, _, _, _ => none
  | k + 1, x4, x143000, x143001, x145000, x145001 => if x4 < 2 then (if x4 = 0 then (laws_toCell.l0 k (wrap64 (x4 + 1)) x143000 x143001 x143000 x145001) else (if x4 = 1 then (laws_toCell.l0 k (wrap64 (x4 + 1)) x143000 x143001 x145000 x143001) else (none))) else (some (x145000, x145001))
def laws_toCell.f (k : Nat) (a0_0 : Int) (a0_1 : Int) : Option (Int × Int) := laws_toCell.l0 k 0 a0_0 a0_1 0 0
theorem laws_toCell.mono_l : ∀ k, (∀ y0 y1 y2 y3 y4, LeO (laws_toCell.l0 k y0 y1 y2 y3 y4) (laws_toCell.l0 (k + 1) y0 y1 y2 y3 y4))
  | 0 => fun _ _ _ _ _ r h => by simp [laws_toCell.l0] at h
  | k + 1 => by
    have ih0 := laws_toCell.mono_l k
    · intro y0 y1 y2 y3 y4
      unfold laws_toCell.l0
      repeat' first | (with_reducible first | apply ih0 | exact LeO.refl _ | exact LeO.none _ | refine LeO.ite ?_ ?_ | refine LeO.bind ?_ (fun _ => ?_)) | apply ih0 | exact LeO.none _ | refine LeO.ite ?_ ?_ | refine LeO.bind ?_ (fun _ => ?_)
theorem laws_toCell.mono : ∀ a0 a1 k, LeO (laws_toCell.f k a0 a1) (laws_toCell.f (k + 1) a0 a1) := by
 intro a0 a1 k
 have ih0 := laws_toCell.mono_l k
 unfold laws_toCell.f
 repeat' first | (with_reducible first | apply ih0 | exact LeO.refl _ | exact LeO.none _ | refine LeO.ite ?_ ?_ | refine LeO.bind ?_ (fun _ => ?_)) | apply ih0 | exact LeO.none _ | refine LeO.ite ?_ ?_ | refine LeO.bind ?_ (fun _ => ?_)
theorem laws_toCell.calls (k : Nat) (a0_0 : Int) (a0_1 : Int) (r1 : Int) (r2 : Int) (w : World) (h : laws_toCell.f k a0_0 a0_1 = some (r1, r2)) :
    Calls Try.prog 36 #[.agg #[.int .i8 a0_0, .int .i8 a0_1]] w fun e w' => e = .returned (.agg #[.int .i8 r1, .int .i8 r2]) ∧ Below w.heap.size w w' := by
 have hu40 := Try.underlying40
 have hu41 := Try.underlying41
 have HB := Aside0.mk (Below.refl w.heap.size w)
 have H : (laws_toCell.l0 k 0 a0_0 a0_1 0 0) = some (r1, r2) := h
 clear h
 have H' := Aside0.mk H
 clear H
 go_enter Try.func36, Try.ntmps36
 go_wp2_with (first | ((with_reducible refine gate_dst (N := 1) rfl ?_); refine zbx 1 #[.int .i8 a0_0, .int .i8 a0_1] 40 ?_; intro gb142 hg w2 hbox hb; have n_ : _ ∧ _ ∧ _ ∧ _ := ⟨zb HB hb, Aside0.mk (hbox), zg HB hg, zg HB hg⟩; clear HB; obtain ⟨HB, BK142, GW142, GE142⟩ := n_; clear hb hbox hg) | ((with_reducible refine gate_dst (N := 2) rfl ?_); refine zbx 2 #[.int .i8 0, .int .i8 0] 41 ?_; intro gb143 hg w3 hbox hb; have n_ : _ ∧ _ ∧ _ ∧ _ ∧ _ ∧ _ ∧ _ := ⟨zk BK142 hb, zbs hb, Aside0.mk (hbox), zg HB hg, zg HB hg, zn1 BK142 hg, zn2 BK142 hg⟩; clear BK142 HB; obtain ⟨BK142, HB, BK143, GW143, GE143, NB142_143, NB143_142⟩ := n_; clear hb hbox hg) | ((with_reducible refine gate_dst (N := 3) rfl ?_); refine zbx 3 #[.int .i8 0, .int .i8 0] 41 ?_; intro gb144 hg w4 hbox hb; have n_ : _ ∧ _ ∧ _ ∧ _ ∧ _ ∧ _ ∧ _ ∧ _ ∧ _ ∧ _ := ⟨zk BK142 hb, zk BK143 hb, zbs hb, Aside0.mk (hbox), zg HB hg, zg HB hg, zn1 BK142 hg, zn2 BK142 hg, zn1 BK143 hg, zn2 BK143 hg⟩; clear BK142 BK143 HB; obtain ⟨BK142, BK143, HB, BK144, GW144, GE144, NB142_144, NB144_142, NB143_144, NB144_143⟩ := n_; clear hb hbox hg))
 go_loopg [4] k (fun kq v4 w' => ∃ (x4_1 : Int) (x145000_1 : Int) (x145001_1 : Int), v4 = .int .i64 x4_1 ∧ Aside0 (laws_toCell.l0 kq x4_1 a0_0 a0_1 x145000_1 x145001_1 = some (r1, r2)) ∧ Aside0 (kq ≤ k) ∧ Aside0 (w'.heap[gb142]? = some (.cells #[.int .i8 a0_0, .int .i8 a0_1] 40 (0, 0))) ∧ Aside0 (w'.heap[gb143]? = some (.cells #[.int .i8 0, .int .i8 0] 41 (0, 0))) ∧ Aside0 (w'.heap[gb144]? = some (.cells #[.int .i8 x145000_1, .int .i8 x145001_1] 41 (0, 0))) ∧ Aside0 (Below w.heap.size w w'))
 case atStart => exact ⟨(0), (0), (0), zi, H', ⟨Nat.le_refl _⟩, zh BK142, zh BK143, zh BK144, zba⟩
 clear H'
 try clear p2
 try clear c3
 obtain ⟨x4_1, x145000_1, x145001_1, rfl, HA, HK1, BK142, BK143, BK144, HB⟩ := hrel
 cases gk with
 | zero => exact absurd HA.out (by simp [laws_toCell.l0])
 | succ k1 => ?_
 have H := HA.out
 clear HA
 simp only [laws_toCell.l0] at H
 by_cases c5 : x4_1 < 2
 rotate_left
 ·rw [if_neg c5] at H
  have c5b0 : decide (x4_1 < 2) = false := decide_eq_false c5
  clear c5
  simp only [Option.some.injEq, Prod.mk.injEq] at H
  obtain ⟨rfl, rfl⟩ := H
  have hnb22 := NB144_142.out
  have hnc22 := NB142_144.out
  have hnb23 := NB144_143.out
  have hnc23 := NB143_144.out
  obtain ⟨z24_0, z24_1, y24_0, y24_1⟩ := zB2 BK144
  have hnb25 := NB143_142.out
  have hnc25 := NB142_143.out
  obtain ⟨z26_0, z26_1, y26_0, y26_1⟩ := zB2 BK143
  go_wp2
  refine bodyPost_ret (results_cell_row rfl _ _ gb143 41 #[.int .i8 x145000_1, .int .i8 x145001_1] (0, 0) _ rfl (zp BK143) Try.underlying41 rfl (by kernel_rfl)) rfl ?_
  exact ⟨zv, zbo⟩
 rw [if_pos c5] at H
 have c5b0 : decide (x4_1 < 2) = true := decide_eq_true c5
 clear c5
 by_cases c6 : x4_1 = 0
 ·rw [if_pos c6] at H
  have Ac6 : Aside0 (x4_1 = 0) := ⟨c6⟩
  clear c6
  have ar7e : x4_1 = 0 := by first | exact (show Aside0 (x4_1 = 0) by assumption).out | exact beq_iff_eq.mp (by assumption) | omega
  have ar7n : (x4_1).toNat = 0 := by rw [ar7e]; rfl
  have ar7l : decide (0 ≤ x4_1) = true := decide_eq_true (by omega)
  have ar7L := eq_true (of_decide_eq_true ar7l)
  have ar7h : decide (x4_1 < 2) = true := decide_eq_true (by omega)
  have ar7H := eq_true (of_decide_eq_true ar7h)
  clear ar7e
  have ar8e : x4_1 = 0 := by first | exact (show Aside0 (x4_1 = 0) by assumption).out | exact beq_iff_eq.mp (by assumption) | omega
  have ar8n : (x4_1).toNat = 0 := by rw [ar8e]; rfl
  have ar8l : decide (0 ≤ x4_1) = true := decide_eq_true (by omega)
  have ar8L := eq_true (of_decide_eq_true ar8l)
  have ar8h : decide (x4_1 < 2) = true := decide_eq_true (by omega)
  have ar8H := eq_true (of_decide_eq_true ar8h)
  clear ar8e
  have H' := Aside0.mk H
  clear H
  have hnb9 := NB142_143.out
  have hnc9 := NB143_142.out
  have hnb10 := NB142_144.out
  have hnc10 := NB144_142.out
  obtain ⟨z11_0, z11_1, y11_0, y11_1⟩ := zB2 BK142
  have hnb12 := NB144_143.out
  have hnc12 := NB143_144.out
  obtain ⟨z13_0, z13_1, y13_0, y13_1⟩ := zB2 BK144
  go_wp2
  go_roundg k1
  case measure => have := HK1.out; omega
  case rel => exact ⟨(wrap64 (x4_1 + 1)), (a0_0), (x145001_1), zi, H', ⟨by have := HK1.out; omega⟩, zf BK142 NB142_144, zf BK143 NB143_144, ⟨zp BK144⟩, zba⟩
 rw [if_neg c6] at H
 clear c6
 by_cases c14 : x4_1 = 1
 rotate_left
 ·rw [if_neg c14] at H
  exact absurd H (by simp)
 rw [if_pos c14] at H
 have Ac14 : Aside0 (x4_1 = 1) := ⟨c14⟩
 clear c14
 have ar15e : x4_1 = 1 := by first | exact (show Aside0 (x4_1 = 1) by assumption).out | exact beq_iff_eq.mp (by assumption) | omega
 have ar15n : (x4_1).toNat = 1 := by rw [ar15e]; rfl
 have ar15l : decide (0 ≤ x4_1) = true := decide_eq_true (by omega)
 have ar15L := eq_true (of_decide_eq_true ar15l)
 have ar15h : decide (x4_1 < 2) = true := decide_eq_true (by omega)
 have ar15H := eq_true (of_decide_eq_true ar15h)
 clear ar15e
 have ar16e : x4_1 = 1 := by first | exact (show Aside0 (x4_1 = 1) by assumption).out | exact beq_iff_eq.mp (by assumption) | omega
 have ar16n : (x4_1).toNat = 1 := by rw [ar16e]; rfl
 have ar16l : decide (0 ≤ x4_1) = true := decide_eq_true (by omega)
 have ar16L := eq_true (of_decide_eq_true ar16l)
 have ar16h : decide (x4_1 < 2) = true := decide_eq_true (by omega)
 have ar16H := eq_true (of_decide_eq_true ar16h)
 clear ar16e
 have H' := Aside0.mk H
 clear H
 have hnb17 := NB142_143.out
 have hnc17 := NB143_142.out
 have hnb18 := NB142_144.out
 have hnc18 := NB144_142.out
 obtain ⟨z19_0, z19_1, y19_0, y19_1⟩ := zB2 BK142
 have hnb20 := NB144_143.out
 have hnc20 := NB143_144.out
 obtain ⟨z21_0, z21_1, y21_0, y21_1⟩ := zB2 BK144
 go_wp2
 go_roundg k1
 case measure => have := HK1.out; omega
 case rel => exact ⟨(wrap64 (x4_1 + 1)), (x145000_1), (a0_1), zi, H', ⟨by have := HK1.out; omega⟩, zf BK142 NB142_144, zf BK143 NB143_144, ⟨zp BK144⟩, zba⟩
def laws_toPiece.f (k : Nat) (a0_0 : Int) (a0_1 : Int) (a0_2 : Int) (a0_3 : Int) (a0_4 : Int) : Option (Int × Int × Int × Int × Int) := (laws_toCell.f k a0_0 a0_1).bind fun bt148 => (some (bt148.1, bt148.2, a0_2, a0_3, a0_4))
theorem laws_toPiece.mono : ∀ a0 a1 a2 a3 a4 k, LeO (laws_toPiece.f k a0 a1 a2 a3 a4) (laws_toPiece.f (k + 1) a0 a1 a2 a3 a4) := by
 intro a0 a1 a2 a3 a4 k
 unfold laws_toPiece.f
 repeat' first | (with_reducible first | apply laws_toCell.mono | exact LeO.refl _ | exact LeO.none _ | refine LeO.ite ?_ ?_ | refine LeO.bind ?_ (fun _ => ?_)) | apply laws_toCell.mono | exact LeO.none _ | refine LeO.ite ?_ ?_ | refine LeO.bind ?_ (fun _ => ?_)
theorem laws_toPiece.calls (k : Nat) (a0_0 : Int) (a0_1 : Int) (a0_2 : Int) (a0_3 : Int) (a0_4 : Int) (r1 : Int) (r2 : Int) (r3 : Int) (r4 : Int) (r5 : Int) (w : World) (h : laws_toPiece.f k a0_0 a0_1 a0_2 a0_3 a0_4 = some (r1, r2, r3, r4, r5)) :
    Calls Try.prog 27 #[.agg #[.int .i8 a0_0, .int .i8 a0_1, .int .i8 a0_2, .int .i8 a0_3, .int .i8 a0_4]] w fun e w' => e = .returned (.agg #[.int .i8 r1, .int .i8 r2, .int .i8 r3, .int .i8 r4, .int .i8 r5]) ∧ Below w.heap.size w w' := by
 have hu59 := Try.underlying59
 have hu43 := Try.underlying43
 have hu40 := Try.underlying40
 have hu41 := Try.underlying41
 have HB := Aside0.mk (Below.refl w.heap.size w)
 have H : ((laws_toCell.f k a0_0 a0_1).bind fun bt148 => (some (bt148.1, bt148.2, a0_2, a0_3, a0_4))) = some (r1, r2, r3, r4, r5) := h
 clear h
 replace H := zob H
 obtain ⟨⟨t148, t149⟩, A20, H⟩ := H
 replace H : (some (t148, t149, a0_2, a0_3, a0_4)) = some (r1, r2, r3, r4, r5) := H
 have A2 := Aside0.mk A20
 clear A20
 simp only [Option.some.injEq, Prod.mk.injEq] at H
 obtain ⟨rfl, rfl, rfl, rfl, rfl⟩ := H
 go_enter Try.func27, Try.ntmps27
 go_wp2_with (first | ((with_reducible refine gate_dst (N := 1) rfl ?_); refine zbx 1 #[.int .i8 a0_0, .int .i8 a0_1, .int .i8 a0_2, .int .i8 a0_3, .int .i8 a0_4] 59 ?_; intro gb145 hg w3 hbox hb; have n_ : _ ∧ _ ∧ _ ∧ _ := ⟨zb HB hb, Aside0.mk (hbox), zg HB hg, zg HB hg⟩; clear HB; obtain ⟨HB, BK145, GW145, GE145⟩ := n_; clear hb hbox hg) | ((with_reducible refine gate_dst (N := 2) rfl ?_); refine zbx 2 #[.int .i8 0, .int .i8 0, .int .i8 0, .int .i8 0, .int .i8 0] 43 ?_; intro gb146 hg w4 hbox hb; have n_ : _ ∧ _ ∧ _ ∧ _ ∧ _ ∧ _ ∧ _ := ⟨zk BK145 hb, zbs hb, Aside0.mk (hbox), zg HB hg, zg HB hg, zn1 BK145 hg, zn2 BK145 hg⟩; clear BK145 HB; obtain ⟨BK145, HB, BK146, GW146, GE146, NB145_146, NB146_145⟩ := n_; clear hb hbox hg) | ((with_reducible refine gate_dst (N := 3) rfl ?_); refine zbx 3 #[.int .i8 0, .int .i8 0, .int .i8 0, .int .i8 0, .int .i8 0] 43 ?_; intro gb147 hg w5 hbox hb; have n_ : _ ∧ _ ∧ _ ∧ _ ∧ _ ∧ _ ∧ _ ∧ _ ∧ _ ∧ _ := ⟨zk BK145 hb, zk BK146 hb, zbs hb, Aside0.mk (hbox), zg HB hg, zg HB hg, zn1 BK145 hg, zn2 BK145 hg, zn1 BK146 hg, zn2 BK146 hg⟩; clear BK145 BK146 HB; obtain ⟨BK145, BK146, HB, BK147, GW147, GE147, NB145_147, NB147_145, NB146_147, NB147_146⟩ := n_; clear hb hbox hg; have hnb6 := NB145_146.out; have hnc6 := NB146_145.out; have hnb7 := NB145_147.out; have hnc7 := NB147_145.out; obtain ⟨z8_0, z8_1, z8_2, z8_3, z8_4, y8_0, y8_1, y8_2, y8_3, y8_4⟩ := zB5 BK145) | ((with_reducible refine gate_callee (f := 36) rfl ?_); refine goesL_ (some 6) rfl rfl Try.func36 (by kernel_rfl) rfl #[.agg #[.int .i8 a0_0, .int .i8 a0_1]] rfl zm ?_; (with_reducible refine (laws_toCell.calls k a0_0 a0_1 t148 t149 _ A2.out).mono ?_); rintro e w9 ⟨rfl, hb⟩; refine ⟨_, rfl, ?_⟩; have n_ : _ ∧ _ ∧ _ ∧ _ := ⟨zk BK145 hb, zk BK146 hb, zk BK147 hb, zbs hb⟩; clear BK145 BK146 BK147 HB; obtain ⟨BK145, BK146, BK147, HB⟩ := n_; (try clear hb); (try clear hb2); (try clear hk); (try clear hi); have hnb10 := NB147_146.out; have hnc10 := NB146_147.out; obtain ⟨z11_0, z11_1, z11_2, z11_3, z11_4, y11_0, y11_1, y11_2, y11_3, y11_4⟩ := zB5 BK147; obtain ⟨z12_0, z12_1, z12_2, z12_3, z12_4, y12_0, y12_1, y12_2, y12_3, y12_4⟩ := zB5 BK145; obtain ⟨z13_0, z13_1, z13_2, z13_3, z13_4, y13_0, y13_1, y13_2, y13_3, y13_4⟩ := zB5 BK146))
 refine bodyPost_ret (results_cell_row rfl _ _ gb146 43 #[.int .i8 t148, .int .i8 t149, .int .i8 a0_2, .int .i8 a0_3, .int .i8 a0_4] (0, 0) _ rfl (by (with_reducible repeat (first | refine blk_drewN ?_ _ | refine blk_drew ?_ | refine blk_alloc ?_ _)); refine blk_put (cs := #[.int .i8 t148, .int .i8 t149, .int .i8 a0_2, .int .i8 a0_3, .int .i8 0]) ?_ 4 _ rfl; (with_reducible repeat (first | refine blk_drewN ?_ _ | refine blk_drew ?_ | refine blk_alloc ?_ _)); refine blk_put (cs := #[.int .i8 t148, .int .i8 t149, .int .i8 a0_2, .int .i8 0, .int .i8 0]) ?_ 3 _ rfl; (with_reducible repeat (first | refine blk_drewN ?_ _ | refine blk_drew ?_ | refine blk_alloc ?_ _)); refine blk_put (cs := #[.int .i8 t148, .int .i8 t149, .int .i8 0, .int .i8 0, .int .i8 0]) ?_ 2 _ rfl; (with_reducible repeat (first | refine blk_drewN ?_ _ | refine blk_drew ?_ | refine blk_alloc ?_ _)); refine blk_put (cs := #[.int .i8 t148, .int .i8 0, .int .i8 0, .int .i8 0, .int .i8 0]) ?_ 1 _ rfl; (with_reducible repeat (first | refine blk_drewN ?_ _ | refine blk_drew ?_ | refine blk_alloc ?_ _)); refine blk_put (cs := #[.int .i8 0, .int .i8 0, .int .i8 0, .int .i8 0, .int .i8 0]) ?_ 0 _ rfl; (with_reducible repeat (first | refine blk_drewN ?_ _ | refine blk_drew ?_ | refine blk_alloc ?_ _)); refine blk_far ?_ NB146_147.out _; (with_reducible repeat (first | refine blk_drewN ?_ _ | refine blk_drew ?_ | refine blk_alloc ?_ _)); refine blk_far ?_ NB146_147.out _; (with_reducible repeat (first | refine blk_drewN ?_ _ | refine blk_drew ?_ | refine blk_alloc ?_ _)); refine blk_far ?_ NB146_147.out _; (with_reducible repeat (first | refine blk_drewN ?_ _ | refine blk_drew ?_ | refine blk_alloc ?_ _)); refine blk_far ?_ NB146_147.out _; (with_reducible repeat (first | refine blk_drewN ?_ _ | refine blk_drew ?_ | refine blk_alloc ?_ _)); refine blk_far ?_ NB146_147.out _; (with_reducible repeat (first | refine blk_drewN ?_ _ | refine blk_drew ?_ | refine blk_alloc ?_ _)); exact BK146.out) Try.underlying43 rfl (by kernel_rfl)) rfl ?_
 exact ⟨zv, zbo⟩
def laws_toPieceS.l0 : Nat → List (S59) → List (S43) → Int → Option ((List (S43)))
  | 0, _, _, _ => none
  | k + 1, x0, x3, x4 => if x4 < (x0.length : Int) then (if 0 ≤ x4 then ((laws_toPiece.f k ((rd_T59 x0 x4).f0.f0) ((rd_T59 x0 x4).f0.f1) ((rd_T59 x0 x4).f1) ((rd_T59 x0 x4).f2) ((rd_T59 x0 x4).f3)).bind fun bt154 => (if x4 < (x3.length : Int) then (laws_toPieceS.l0 k x0 (x3.set (x4 : Int).toNat (⟨(⟨bt154.1, bt154.2.1⟩ : S41), bt154.2.2.1, bt154.2.2.2.1, bt154.2.2.2.2⟩ : S43)) (wrap64 (x4 + 1))) else (none))) else (none)) else (some x3)
def laws_toPieceS.f (k : Nat) (l0 : List (S59)) : Option ((List (S43))) := if 0 ≤ (l0.length : Int) then (if ((l0.length : Int) : Int).toNat ≤ 56294995342131 then (laws_toPieceS.l0 k l0 (List.replicate ((l0.length : Int) : Int).toNat z43) 0) else (none)) else (none)
theorem laws_toPieceS.mono_l : ∀ k, (∀ y0 y1 y2, LeO (laws_toPieceS.l0 k y0 y1 y2) (laws_toPieceS.l0 (k + 1) y0 y1 y2))
  | 0 => fun _ _ _ r h => by simp [laws_toPieceS.l0] at h
  | k + 1 => by
    have ih0 := laws_toPieceS.mono_l k
    · intro y0 y1 y2
      unfold laws_toPieceS.l0
      repeat' first | (with_reducible first | apply ih0 | apply laws_toPiece.mono | exact LeO.refl _ | exact LeO.none _ | refine LeO.ite ?_ ?_ | refine LeO.bind ?_ (fun _ => ?_)) | apply ih0 | apply laws_toPiece.mono | exact LeO.none _ | refine LeO.ite ?_ ?_ | refine LeO.bind ?_ (fun _ => ?_)
theorem laws_toPieceS.mono : ∀ a0 k, LeO (laws_toPieceS.f k a0) (laws_toPieceS.f (k + 1) a0) := by
 intro a0 k
 have ih0 := laws_toPieceS.mono_l k
 unfold laws_toPieceS.f
 repeat' first | (with_reducible first | apply ih0 | apply laws_toPiece.mono | exact LeO.refl _ | exact LeO.none _ | refine LeO.ite ?_ ?_ | refine LeO.bind ?_ (fun _ => ?_)) | apply ih0 | apply laws_toPiece.mono | exact LeO.none _ | refine LeO.ite ?_ ?_ | refine LeO.bind ?_ (fun _ => ?_)
theorem laws_toPieceS.calls (k : Nat) (A0 : Option Addr) (c0 : Nat) (l0 : List (S59)) (r : List (S43)) (w : World) (hr0 : Kd.C k59 w A0 l0.length l0) (hc0 : l0.length ≤ c0) (h : laws_toPieceS.f k l0 = some r) :
    Calls Try.prog 14 #[.slice A0 l0.length c0] w fun e w' => ∃ v0_ : Value, e = .returned (v0_) ∧ Kd.R k43 43 w' w.heap.size (fun _ => True) v0_ r ∧ Below w.heap.size w w' := by
 have hu59 := Try.underlying59
 have hu43 := Try.underlying43
 have HR0 := Aside0.mk hr0
 have HC0 := Aside0.mk hc0
 clear hr0 hc0
 have HB := Aside0.mk (Below.refl w.heap.size w)
 have H : (if 0 ≤ (l0.length : Int) then (if ((l0.length : Int) : Int).toNat ≤ 56294995342131 then (laws_toPieceS.l0 k l0 (List.replicate ((l0.length : Int) : Int).toNat z43) 0) else (none)) else (none)) = some r := h
 clear h
 by_cases c2 : 0 ≤ (l0.length : Int)
 rotate_left
 ·rw [if_neg c2] at H
  exact absurd H (by simp)
 rw [if_pos c2] at H
 have c2b0 := eq_true c2
 have c2b1 : decide (0 ≤ (l0.length : Int)) = true := decide_eq_true c2
 clear c2
 by_cases c3 : ((l0.length : Int) : Int).toNat ≤ 56294995342131
 rotate_left
 ·rw [if_neg c3] at H
  exact absurd H (by simp)
 rw [if_pos c3] at H
 have c3b0 := eq_true c3
 have c3b1 : decide (((l0.length : Int) : Int).toNat ≤ 56294995342131) = true := decide_eq_true c3
 clear c3
 obtain ⟨y150, hy150⟩ : ∃ y_ : List (S43), y_ = (List.replicate ((l0.length : Int) : Int).toNat z43) := ⟨_, rfl⟩
 replace H : (laws_toPieceS.l0 k l0 y150 0) = some r := by first | (rw [hy150]; with_reducible exact H) | (have H2_ := (Option.bind_some _ _).symm.trans H; rw [hy150]; with_reducible exact H2_) | (have H2_ := (Option.bind_some _ _).symm.trans H; with_reducible exact H2_) | with_reducible exact H | (rw [hy150]; exact H) | exact H
 have Ny150 := Aside0.mk hy150
 clear hy150
 have H' := Aside0.mk H
 clear H
 go_enter Try.func14, Try.ntmps14
 go_wp2_with (first | ((with_reducible refine gate_dst (N := 7) rfl ?_); refine Kd.R_make k43 _ 43 rfl (N := 7) rfl 27 _ _ rfl (l0.length : Int) rfl rfl Try.underlying27 (.agg #[(.int .i8 0), (.int .i8 0), (.int .i8 0), (.int .i8 0), (.int .i8 0)]) 5 info43 rfl (by decide) (by omega) z43 (ok := fun _ => True) (okp := fun _ => True) (k43_mkM _ _ _ z43 ) (fun _ hk => hk) trivial (of_decide_eq_true zA) (Nat.le_trans (Nat.mul_le_mul_right _ (of_decide_eq_true zA : (l0.length : Int).toNat ≤ 56294995342131)) (by omega)) (Below.refl _ _) (Nat.le_refl _) ?_; intro v151 w4 ho5 hb hg_ hnew_; clear hg_ hnew_; (first | rw [← Ny150.out] at ho5 | (simp only [Int.reduceToNat] at ho5; rw [← Ny150.out] at ho5)); have n_ : _ ∧ _ := ⟨Aside0.mk (Kd.R_lower ho5 (zz HB)), zb HB hb⟩; clear HB; obtain ⟨HO152, HB⟩ := n_; clear hb ho5))
 go_loopg [4] k (fun kq v4 w' => ∃ (x3_1 : List (S43)) (x4_1 : Int), v4 = .int .i64 x4_1 ∧ Aside0 (laws_toPieceS.l0 kq l0 x3_1 x4_1 = some r) ∧ Aside0 (kq ≤ k) ∧ Aside0 (Kd.R k43 43 w' w.heap.size (fun _ => True) v151 x3_1) ∧ Aside0 (Below w.heap.size w w'))
 case atStart => exact ⟨(y150), (0), zi, H', ⟨Nat.le_refl _⟩, ze HO152, zl HB⟩
 clear H'
 try clear c1
 try clear c2
 try clear c2b0
 try clear c2b1
 try clear p2
 try clear c3
 try clear c3b0
 try clear c3b1
 obtain ⟨x3_1, x4_1, rfl, HA, HK1, HO_3, HB⟩ := hrel
 cases gk with
 | zero => exact absurd HA.out (by simp [laws_toPieceS.l0])
 | succ k1 => ?_
 have H := HA.out
 clear HA
 simp only [laws_toPieceS.l0] at H
 by_cases c6 : x4_1 < (l0.length : Int)
 rotate_left
 ·rw [if_neg c6] at H
  have c6b0 : decide (x4_1 < (l0.length : Int)) = false := decide_eq_false c6
  clear c6
  obtain rfl := Option.some.inj H
  go_wp2
  go_ret
  exact ⟨_, zv, by (with_reducible repeat (first | apply Kd.R_alloc | apply Kd.R_drewN | apply Kd.R_drew)); exact HO_3.out, zbo⟩
 rw [if_pos c6] at H
 have c6b0 : decide (x4_1 < (l0.length : Int)) = true := decide_eq_true c6
 clear c6
 by_cases c7 : 0 ≤ x4_1
 rotate_left
 ·rw [if_neg c7] at H
  exact absurd H (by simp)
 rw [if_pos c7] at H
 have c7b0 : decide (0 ≤ x4_1) = true := decide_eq_true c7
 clear c7
 replace H := zob H
 obtain ⟨⟨t154, t155, t156, t157, t158⟩, A80, H⟩ := H
 replace H : (if x4_1 < (x3_1.length : Int) then (laws_toPieceS.l0 k1 l0 (x3_1.set (x4_1 : Int).toNat (⟨(⟨t154, t155⟩ : S41), t156, t157, t158⟩ : S43)) (wrap64 (x4_1 + 1))) else (none)) = some r := H
 have A8 := Aside0.mk A80
 clear A80
 by_cases c9 : x4_1 < (x3_1.length : Int)
 rotate_left
 ·rw [if_neg c9] at H
  exact absurd H (by simp)
 rw [if_pos c9] at H
 have c9b0 : decide (x4_1 < (x3_1.length : Int)) = true := decide_eq_true c9
 clear c9
 obtain ⟨y159, hy159⟩ : ∃ y_ : List (S43), y_ = (x3_1.set (x4_1 : Int).toNat (⟨(⟨t154, t155⟩ : S41), t156, t157, t158⟩ : S43)) := ⟨_, rfl⟩
 replace H : (laws_toPieceS.l0 k1 l0 y159 (wrap64 (x4_1 + 1))) = some r := by first | (rw [hy159]; with_reducible exact H) | (have H2_ := (Option.bind_some _ _).symm.trans H; rw [hy159]; with_reducible exact H2_) | (have H2_ := (Option.bind_some _ _).symm.trans H; with_reducible exact H2_) | with_reducible exact H | (rw [hy159]; exact H) | exact H
 have Ny159 := Aside0.mk hy159
 clear hy159
 have H' := Aside0.mk H
 clear H
 have p153 : 0 ≤ (x4_1 : Int) := of_decide_eq_true zA
 have q153 : x4_1 < (l0.length : Int) := of_decide_eq_true zA
 obtain ⟨ad153, e153, hx153_0, hx153_1, hx153_2, hx153_3, hx153_4⟩ := at_T59 HR0.out x4_1 p153 q153
 cases e153
 replace hx153_0 := zc HB hx153_0
 replace hx153_1 := zc HB hx153_1
 replace hx153_2 := zc HB hx153_2
 replace hx153_3 := zc HB hx153_3
 replace hx153_4 := zc HB hx153_4
 replace p153 := eq_true p153
 replace q153 := eq_true q153
 go_wp2_with (first | ((with_reducible refine gate_callee (f := 27) rfl ?_); refine goesL_ (some 20) rfl rfl Try.func27 (by kernel_rfl) rfl #[.agg #[.int .i8 ((rd_T59 l0 x4_1).f0.f0), .int .i8 ((rd_T59 l0 x4_1).f0.f1), .int .i8 ((rd_T59 l0 x4_1).f1), .int .i8 ((rd_T59 l0 x4_1).f2), .int .i8 ((rd_T59 l0 x4_1).f3)]] rfl zm ?_; (with_reducible refine (laws_toPiece.calls k1 ((rd_T59 l0 x4_1).f0.f0) ((rd_T59 l0 x4_1).f0.f1) ((rd_T59 l0 x4_1).f1) ((rd_T59 l0 x4_1).f2) ((rd_T59 l0 x4_1).f3) t154 t155 t156 t157 t158 _ A8.out).mono ?_); rintro e w11 ⟨rfl, hb⟩; refine ⟨_, rfl, ?_⟩; have n_ : _ ∧ _ := ⟨zr HO_3 hb, zb HB hb⟩; clear HO_3 HB; obtain ⟨HO_3, HB⟩ := n_; (try clear hb); (try clear hb2); (try clear hk); (try clear hi); have p10 : 0 ≤ (x4_1 : Int) := of_decide_eq_true zA; have q10 : (x4_1 : Int) < ((x3_1.length : Int) : Int) := of_decide_eq_true zA; obtain ⟨go10, co10, eo10, gb10, gl10, cl10, HG10⟩ := Kd.R_form HO_3.out (by omega); (first | cases eo10 | (injection eo10 with ea_ en_ ec_; (first | subst ea_ | (injection ea_ with ea_; subst ea_)); subst ec_; clear en_)); have GB10 := Aside0.mk gb10; have GG10 := Aside0.mk HG10; clear gb10 gl10 HG10; obtain ⟨ce10, hcl10, hM10, hcc10, hfr10⟩ := Kd.R_elem HO_3.out z43 (x4_1 : Int) p10 q10; obtain rfl := k43_openM hM10; have hx10_0 : w11.cell? ⟨go10, (x4_1 : Int).toNat * 5, none⟩ = some (.int .i8 ((rd_T43 x3_1 x4_1).f0.f0)) := hcc10 0 _ rfl; have hx10_1 : w11.cell? ⟨go10, (x4_1 : Int).toNat * 5 + 1, none⟩ = some (.int .i8 ((rd_T43 x3_1 x4_1).f0.f1)) := hcc10 1 _ rfl; have hx10_2 : w11.cell? ⟨go10, (x4_1 : Int).toNat * 5 + 2, none⟩ = some (.int .i8 ((rd_T43 x3_1 x4_1).f1)) := hcc10 2 _ rfl; have hx10_3 : w11.cell? ⟨go10, (x4_1 : Int).toNat * 5 + 3, none⟩ = some (.int .i8 ((rd_T43 x3_1 x4_1).f2)) := hcc10 3 _ rfl; have hx10_4 : w11.cell? ⟨go10, (x4_1 : Int).toNat * 5 + 4, none⟩ = some (.int .i8 ((rd_T43 x3_1 x4_1).f3)) := hcc10 4 _ rfl; have hf10_0 : w11.frozen? ⟨go10, (x4_1 : Int).toNat * 5, none⟩ = false := hfr10 0; have hf10_1 : w11.frozen? ⟨go10, (x4_1 : Int).toNat * 5 + 1, none⟩ = false := hfr10 1; have hf10_2 : w11.frozen? ⟨go10, (x4_1 : Int).toNat * 5 + 2, none⟩ = false := hfr10 2; have hf10_3 : w11.frozen? ⟨go10, (x4_1 : Int).toNat * 5 + 3, none⟩ = false := hfr10 3; have hf10_4 : w11.frozen? ⟨go10, (x4_1 : Int).toNat * 5 + 4, none⟩ = false := hfr10 4; clear hcl10 hcc10 hfr10 hM10; replace p10 := eq_true p10; replace q10 := eq_true q10; have HX12 := Aside0.mk (show Kd.R k43 43 w11 w.heap.size (fun _ => True) (.slice (some ⟨go10, 0, none⟩) x3_1.length co10) x3_1 from (ze HO_3).out); obtain ⟨ce12, hcl12, hM12, hcc12, hfr12⟩ := Kd.R_elem HX12.out z43 (x4_1 : Int) (of_decide_eq_true zA) (zlt (x4_1 : Int) (x3_1.length : Int) (Kd.R_reads' HO_3.out).1); obtain rfl := k43_openM hM12; have HP12 := Kd.R_seg HX12.out (x4_1 : Int) (of_decide_eq_true zA) (zlt (x4_1 : Int) (x3_1.length : Int) (Kd.R_reads' HO_3.out).1) (seg := [.int .i8 t154, .int .i8 t155, .int .i8 t156, .int .i8 t157, .int .i8 t158]) (j := 0) hcl12 hcc12 (show 5 ≤ 5 from by decide) (x' := (⟨(⟨t154, t155⟩ : S41), t156, t157, t158⟩ : S43)) (k43_mkM _ _ _ (⟨(⟨t154, t155⟩ : S41), t156, t157, t158⟩ : S43) ) (fun _ hk => hk); have hx12_0 := hcc12 0 _ rfl; (try simp only [show (k43).sz = 5 from rfl, Nat.mul_one, Nat.add_zero] at hx12_0); have hf12_0 := hfr12 0; (try simp only [show (k43).sz = 5 from rfl, Nat.mul_one, Nat.add_zero] at hf12_0); have hx12_1 := hcc12 1 _ rfl; (try simp only [show (k43).sz = 5 from rfl, Nat.mul_one, Nat.add_zero] at hx12_1); have hf12_1 := hfr12 1; (try simp only [show (k43).sz = 5 from rfl, Nat.mul_one, Nat.add_zero] at hf12_1); have hx12_2 := hcc12 2 _ rfl; (try simp only [show (k43).sz = 5 from rfl, Nat.mul_one, Nat.add_zero] at hx12_2); have hf12_2 := hfr12 2; (try simp only [show (k43).sz = 5 from rfl, Nat.mul_one, Nat.add_zero] at hf12_2); have hx12_3 := hcc12 3 _ rfl; (try simp only [show (k43).sz = 5 from rfl, Nat.mul_one, Nat.add_zero] at hx12_3); have hf12_3 := hfr12 3; (try simp only [show (k43).sz = 5 from rfl, Nat.mul_one, Nat.add_zero] at hf12_3); have hx12_4 := hcc12 4 _ rfl; (try simp only [show (k43).sz = 5 from rfl, Nat.mul_one, Nat.add_zero] at hx12_4); have hf12_4 := hfr12 4; (try simp only [show (k43).sz = 5 from rfl, Nat.mul_one, Nat.add_zero] at hf12_4); clear hcl12 hcc12 hfr12 hM12) | ((with_reducible refine gate_store (t := 43) (p := 21) rfl ?_); refine store_event (t := 43) (p := 21) (v := ?vo_w13) (w1 := (((((w11.setCell ⟨go10, (x4_1 : Int).toNat * 5, none⟩ (.int .i8 t154)).setCell ⟨go10, (x4_1 : Int).toNat * 5 + 1, none⟩ (.int .i8 t155)).setCell ⟨go10, (x4_1 : Int).toNat * 5 + 2, none⟩ (.int .i8 t156)).setCell ⟨go10, (x4_1 : Int).toNat * 5 + 3, none⟩ (.int .i8 t157)).setCell ⟨go10, (x4_1 : Int).toNat * 5 + 4, none⟩ (.int .i8 t158))) ?hg ?ho ?hn ?hr ?_; (case ho => rfl); (case hg => rfl); (case hn => rfl); (case hr => exact zgs); intro w13 hw; have hg : w11.grownBy w13 (some go10) := (by rw [hw]; exact HP12.2); have hp_ : Kd.R k43 43 w13 w.heap.size (fun _ => True) (.slice (some ⟨go10, 0, none⟩) x3_1.length co10) y159 := (by rw [hw, Ny159.out]; exact HP12.1); clear HP12; have n_ : _ ∧ _ := ⟨Aside0.mk (hp_), Aside0.mk ((by rw [hw]; exact below_set (below_set (below_set (below_set (below_set (HB.out) GB10.out) GB10.out) GB10.out) GB10.out) GB10.out : Below w.heap.size w w13))⟩; clear HO_3 HB; obtain ⟨HO_3, HB⟩ := n_; clear hg hw hp_))
 go_roundg k1
 case measure => have := HK1.out; omega
 case rel => exact ⟨(y159), (wrap64 (x4_1 + 1)), zi, H', ⟨by have := HK1.out; omega⟩, ze HO_3, zl HB⟩
def laws_toBoard.f (k : Nat) (a0_0 : Int) (a0_1 : Int) (l0_2 : List (S59)) : Option (Int × Int × (List (S43))) := (laws_toPieceS.f k l0_2).bind fun t163 => (some (a0_0, a0_1, t163))
theorem laws_toBoard.mono : ∀ a0 a1 a2 k, LeO (laws_toBoard.f k a0 a1 a2) (laws_toBoard.f (k + 1) a0 a1 a2) := by
 intro a0 a1 a2 k
 unfold laws_toBoard.f
 repeat' first | (with_reducible first | apply laws_toPieceS.mono | exact LeO.refl _ | exact LeO.none _ | refine LeO.ite ?_ ?_ | refine LeO.bind ?_ (fun _ => ?_)) | apply laws_toPieceS.mono | exact LeO.none _ | refine LeO.ite ?_ ?_ | refine LeO.bind ?_ (fun _ => ?_)
theorem laws_toBoard.calls (k : Nat) (a0_0 : Int) (a0_1 : Int) (A0_2 : Option Addr) (c0_2 : Nat) (l0_2 : List (S59)) (r1 : Int) (r2 : Int) (r3 : List (S43)) (w : World) (hr0_2 : Kd.C k59 w A0_2 l0_2.length l0_2) (hc0_2 : l0_2.length ≤ c0_2) (h : laws_toBoard.f k a0_0 a0_1 l0_2 = some (r1, r2, r3)) :
    Calls Try.prog 6 #[.agg #[.int .i8 a0_0, .int .i8 a0_1, .slice A0_2 l0_2.length c0_2]] w fun e w' => ∃ v2_ : Value, e = .returned (.agg #[.int .i8 r1, .int .i8 r2, v2_]) ∧ Kd.R k43 43 w' w.heap.size (fun _ => True) v2_ r3 ∧ Below w.heap.size w w' := by
 have hu25 := Try.underlying25
 have hu29 := Try.underlying29
 have HR0_2 := Aside0.mk hr0_2
 have HC0_2 := Aside0.mk hc0_2
 clear hr0_2 hc0_2
 have HB := Aside0.mk (Below.refl w.heap.size w)
 have H : ((laws_toPieceS.f k l0_2).bind fun t163 => (some (a0_0, a0_1, t163))) = some (r1, r2, r3) := h
 clear h
 replace H := zob H
 obtain ⟨t163, A20, H⟩ := H
 replace H : (some (a0_0, a0_1, t163)) = some (r1, r2, r3) := H
 have A2 := Aside0.mk A20
 clear A20
 simp only [Option.some.injEq, Prod.mk.injEq] at H
 obtain ⟨rfl, rfl, rfl⟩ := H
 go_enter Try.func6, Try.ntmps6
 go_wp2_with (first | ((with_reducible refine gate_dst (N := 1) rfl ?_); refine zbx 1 #[.int .i8 a0_0, .int .i8 a0_1, .slice A0_2 l0_2.length c0_2] 25 ?_; intro gb160 hg w3 hbox hb; have n_ : _ ∧ _ ∧ _ ∧ _ := ⟨zb HB hb, Aside0.mk (hbox), zg HB hg, zg HB hg⟩; clear HB; obtain ⟨HB, BK160, GW160, GE160⟩ := n_; clear hb hbox hg) | ((with_reducible refine gate_dst (N := 2) rfl ?_); refine zbx 2 #[.int .i8 0, .int .i8 0, .slice none 0 0] 29 ?_; intro gb161 hg w4 hbox hb; have n_ : _ ∧ _ ∧ _ ∧ _ ∧ _ ∧ _ ∧ _ := ⟨zk BK160 hb, zbs hb, Aside0.mk (hbox), zg HB hg, zg HB hg, zn1 BK160 hg, zn2 BK160 hg⟩; clear BK160 HB; obtain ⟨BK160, HB, BK161, GW161, GE161, NB160_161, NB161_160⟩ := n_; clear hb hbox hg) | ((with_reducible refine gate_dst (N := 3) rfl ?_); refine zbx 3 #[.int .i8 0, .int .i8 0, .slice none 0 0] 29 ?_; intro gb162 hg w5 hbox hb; have n_ : _ ∧ _ ∧ _ ∧ _ ∧ _ ∧ _ ∧ _ ∧ _ ∧ _ ∧ _ := ⟨zk BK160 hb, zk BK161 hb, zbs hb, Aside0.mk (hbox), zg HB hg, zg HB hg, zn1 BK160 hg, zn2 BK160 hg, zn1 BK161 hg, zn2 BK161 hg⟩; clear BK160 BK161 HB; obtain ⟨BK160, BK161, HB, BK162, GW162, GE162, NB160_162, NB162_160, NB161_162, NB162_161⟩ := n_; clear hb hbox hg; have hnb6 := NB160_161.out; have hnc6 := NB161_160.out; have hnb7 := NB160_162.out; have hnc7 := NB162_160.out; obtain ⟨z8_0, z8_1, z8_2, y8_0, y8_1, y8_2⟩ := zB3 BK160; have hnb9 := NB162_161.out; have hnc9 := NB161_162.out; obtain ⟨z10_0, z10_1, z10_2, y10_0, y10_1, y10_2⟩ := zB3 BK162) | ((with_reducible refine gate_callee (f := 14) rfl ?_); refine goesL_ (some 12) rfl rfl Try.func14 (by kernel_rfl) rfl #[.slice A0_2 l0_2.length c0_2] rfl zm ?_; (with_reducible refine (laws_toPieceS.calls k _ _ l0_2 t163 _ ?side1 ?side2 A2.out).mono ?_); (case side1 => exact Kd.C_below HR0_2.out zbo); (case side2 => exact HC0_2.out); rintro e w11 ⟨v164, rfl, ho0, hb⟩; refine ⟨_, rfl, ?_⟩; have n_ : _ ∧ _ ∧ _ ∧ _ ∧ _ := ⟨Aside0.mk (Kd.R_lower ho0 (zz HB)), zfb BK160 NB160_162 hb, zfb BK161 NB161_162 hb, Aside0.mk (blk_below (g := gb162) (o := .cells #[.int .i8 a0_0, .int .i8 a0_1, .slice none 0 0] 29 (0, 0)) (zp BK162) hb), zbs hb⟩; clear BK160 BK161 BK162 HB; obtain ⟨HO165, BK160, BK161, BK162, HB⟩ := n_; (try clear hb); (try clear hb2); (try clear hk); (try clear hi); (try clear ho0); obtain ⟨Ao12, co12, eo12⟩ := Kd.R_slice HO165.out; subst eo12; obtain ⟨z13_0, z13_1, z13_2, y13_0, y13_1, y13_2⟩ := zB3 BK162; obtain ⟨z14_0, z14_1, z14_2, y14_0, y14_1, y14_2⟩ := zB3 BK161))
 refine bodyPost_ret (results_cell_row rfl _ _ gb161 29 #[.int .i8 a0_0, .int .i8 a0_1, .slice Ao12 t163.length co12] (0, 0) _ rfl (by (with_reducible repeat (first | refine blk_drewN ?_ _ | refine blk_drew ?_ | refine blk_alloc ?_ _)); refine blk_put (cs := #[.int .i8 a0_0, .int .i8 a0_1, .slice none 0 0]) ?_ 2 _ rfl; (with_reducible repeat (first | refine blk_drewN ?_ _ | refine blk_drew ?_ | refine blk_alloc ?_ _)); refine blk_put (cs := #[.int .i8 a0_0, .int .i8 0, .slice none 0 0]) ?_ 1 _ rfl; (with_reducible repeat (first | refine blk_drewN ?_ _ | refine blk_drew ?_ | refine blk_alloc ?_ _)); refine blk_put (cs := #[.int .i8 0, .int .i8 0, .slice none 0 0]) ?_ 0 _ rfl; (with_reducible repeat (first | refine blk_drewN ?_ _ | refine blk_drew ?_ | refine blk_alloc ?_ _)); refine blk_far ?_ NB161_162.out _; (with_reducible repeat (first | refine blk_drewN ?_ _ | refine blk_drew ?_ | refine blk_alloc ?_ _)); exact BK161.out) Try.underlying29 rfl (by kernel_rfl)) rfl ?_
 exact ⟨_, zv, by (with_reducible repeat (first | apply Kd.R_alloc | apply Kd.R_drewN | apply Kd.R_drew)); exact Kd.R_mono (Kd.R_far (p := ⟨gb161, 2, none⟩) (Kd.R_far (p := ⟨gb161, 1, none⟩) (Kd.R_far (p := ⟨gb161, 0, none⟩) (Kd.R_far (p := ⟨gb162, 2, none⟩) (Kd.R_types (Kd.R_types HO165.out BK162.out (by decide)) BK161.out (by decide)) (fun _ hk => hk.1.2) (.slice Ao12 t163.length co12)) (fun _ hk => hk.2) (.int .i8 a0_0)) (fun _ hk => hk.2) (.int .i8 a0_1)) (fun _ hk => hk.2) (.slice Ao12 t163.length co12)) (fun _ hk => trivial), zbo⟩
def impl_in.f (a0 : Int) (a1 : Int) (a2 : Int) : Option (Bool) := if a0 ≥ a1 then (some (decide (a0 ≤ a2))) else (some false)
theorem impl_in.calls (a0 : Int) (a1 : Int) (a2 : Int) (r : Bool) (w : World) (h : impl_in.f a0 a1 a2 = some r) :
    Calls Try.prog 28 #[.int .i64 a0, .int .i64 a1, .int .i64 a2] w fun e w' => e = .returned (.bool r) ∧ Drawn0 w w' := by
 have H : (if a0 ≥ a1 then (some (decide (a0 ≤ a2))) else (some false)) = some r := h
 clear h
 by_cases c4 : a0 ≥ a1
 ·rw [if_pos c4] at H
  have c4b0 : decide (a1 ≤ a0) = true := decide_eq_true c4
  clear c4
  obtain rfl := Option.some.inj H
  go_enter Try.func28, Try.ntmps28
  go_wp2
  go_ret
  exact ⟨zi, zdr⟩
 rw [if_neg c4] at H
 have c4b0 : decide (a1 ≤ a0) = false := decide_eq_false c4
 clear c4
 obtain rfl := Option.some.inj H
 go_enter Try.func28, Try.ntmps28
 go_wp2
 go_ret
 exact ⟨zi, zdr⟩
end Go.Proofs.Ytljjmgokebmldaa.PFnExactSortBoard
