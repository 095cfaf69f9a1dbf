-- WRITTEN by xprint.py, a program of this session's. Not trusted: Lean checks it.
-- packed by pack.py
import Derived.Test.YtkflenibdijnaaaPFnExactAdderOfx0
import Derived.Test.YtkflenibdijnaaaPFnExactAdderOfx3
import Derived.Test.YtkflenibdijnaaaPFnExactAdderOfx4
import Derived.Test.YtkflenibdijnaaaTFnExactAdderOfa
namespace Go.Proofs.Ytkflenibdijnaaa.PFnExactAdderOf
open Go.RowKit Go.Proofs.YtkflenibdijnaaaW.PrintWords Go.Proofs.YtkflenibdijnaaaW.PrintLast Go.Proofs.YtkflenibdijnaaaW.PrintMore Go.Proofs.YtkflenibdijnaaaX
attribute [local go_sem] max2_int min2_int max_two min_two max_three min_three max_four min_four   -- for this text's walks alone
set_option maxHeartbeats 8000000
set_option maxRecDepth 100000
set_option linter.unusedVariables false
set_option linter.unusedSimpArgs false

def impl_Network_merged.l0 : Nat → List (S29) → List Int → List Int → List Int → Int → Int → Int → List (S61) → Option (Int × (List (S61)) × List Int × List Int)
  | 0, _, _, _, _, _, _, _, _ => none
  | k + 1, x0, x5, x6, x18, x19, x20, x174000, x174001 => if x20 < x19 then (if 0 ≤ x20 then (if x20 < (x18.length : Int) then ((slices_Index_uint64_uint64.f k x6 (rd x18 x20)).bind fun t182 => (if t182 < 0 then (if x6.length < 17592186044416 then (if 0 < (x0.length : Int) then (if x20 < (((rd_T29 x0 0).f1).length : Int) then ((impl_Node_renamed.f ((rd_T61 ((rd_T29 x0 0).f1) x20).f0) ((rd_T61 ((rd_T29 x0 0).f1) x20).f1) ((rd_T61 ((rd_T29 x0 0).f1) x20).f2) x5).bind fun bt188 => (if x174001.length < 23456248059221 then (if x5.length < 70368744177664 then (impl_Network_merged.l0 k x0 (x5 ++ [IntKind.i16.wrap ((x6.length : Int))]) (x6 ++ [rd x18 x20]) x18 x19 (wrap64 (x20 + 1)) x174000 (x174001 ++ [(⟨bt188.1, bt188.2.1, bt188.2.2⟩ : S61)])) else (none)) else (none))) else (none)) else (none)) else (none)) else (if x5.length < 70368744177664 then (impl_Network_merged.l0 k x0 (x5 ++ [IntKind.i16.wrap (t182)]) x6 x18 x19 (wrap64 (x20 + 1)) x174000 x174001) else (none)))) else (none)) else (none)) else (if 0 < (x0.length : Int) then ((impl_renamedAll.f k ((rd_T29 x0 0).f2) x5).bind fun t178 => (some (x174000, x174001, t178, x5))) else (none))
def impl_Network_merged.f (k : Nat) (l0 : List (S29)) : Option (Int × (List (S61)) × List Int × List Int) := if 0 < (l0.length : Int) then ((impl_Network_tables.f k l0).bind fun t174 => (impl_Network_merged.l0 k l0 (([] : List Int)) (([] : List Int)) t174 (t174.length : Int) 0 ((rd_T29 l0 0).f0) ([] : List (S61)))) else (none)
theorem impl_Network_merged.mono_l : ∀ k, (∀ y0 y1 y2 y3 y4 y5 y6 y7, LeO (impl_Network_merged.l0 k y0 y1 y2 y3 y4 y5 y6 y7) (impl_Network_merged.l0 (k + 1) y0 y1 y2 y3 y4 y5 y6 y7))
  | 0 => fun _ _ _ _ _ _ _ _ r h => by simp [impl_Network_merged.l0] at h
  | k + 1 => by
    have ih0 := impl_Network_merged.mono_l k
    · intro y0 y1 y2 y3 y4 y5 y6 y7
      unfold impl_Network_merged.l0
      repeat' first | (with_reducible first | apply ih0 | apply impl_Network_tables.mono | apply impl_renamedAll.mono | apply slices_Index_uint64_uint64.mono | exact LeO.refl _ | exact LeO.none _ | refine LeO.ite ?_ ?_ | refine LeO.bind ?_ (fun _ => ?_)) | apply ih0 | apply impl_Network_tables.mono | apply impl_renamedAll.mono | apply slices_Index_uint64_uint64.mono | exact LeO.none _ | refine LeO.ite ?_ ?_ | refine LeO.bind ?_ (fun _ => ?_)
theorem impl_Network_merged.mono : ∀ a0 k, LeO (impl_Network_merged.f k a0) (impl_Network_merged.f (k + 1) a0) := by
 intro a0 k
 have ih0 := impl_Network_merged.mono_l k
 unfold impl_Network_merged.f
 repeat' first | (with_reducible first | apply ih0 | apply impl_Network_tables.mono | apply impl_renamedAll.mono | apply slices_Index_uint64_uint64.mono | exact LeO.refl _ | exact LeO.none _ | refine LeO.ite ?_ ?_ | refine LeO.bind ?_ (fun _ => ?_)) | apply ih0 | apply impl_Network_tables.mono | apply impl_renamedAll.mono | apply slices_Index_uint64_uint64.mono | exact LeO.none _ | refine LeO.ite ?_ ?_ | refine LeO.bind ?_ (fun _ => ?_)
def impl_Network_merged.T8 : Bool × List (List Nat × List Nat) := (true, [([], []), ([], []), ([1], [1]), ([0, 2], [0, 2]), ([], []), ([4], [4]), ([], []), ([6], [6]), ([7], [7]), ([8], [8]), ([], []), ([9, 10], [9, 10]), ([11], [11]), ([], []), ([12, 13, 3], [12, 13]), ([14], [14]), ([5, 15, 14], [5, 15]), ([3, 16, 0, 1, 2, 3], [0, 3]), ([0, 1, 2, 3, 4, 5, 6, 7, 8, 9, 10, 11, 12, 13, 14, 15, 16, 17], []), ([18, 16, 17, 0, 1, 2, 3, 4, 5, 6, 7, 8, 9, 10, 11, 12, 13, 14, 15, 16, 17], [16, 18])])
def impl_Network_merged.B8 : List Nat := [0, 0, 2, 7, 0, 16, 0, 64, 192, 448, 0, 1984, 4032, 0, 16335, 32719, 65535, 131071, 262143, 524287]
theorem impl_Network_merged.tab8 : rtab .any (opsOf Try.f42 8) = impl_Network_merged.T8 := by kernel_rfl
theorem impl_Network_merged.bits8 : waitsOk impl_Network_merged.T8.2 impl_Network_merged.B8 = true := by kernel_rfl
theorem impl_Network_merged.calls (k : Nat) (adp0 : Addr) (l0 : List (S29)) (r1 : Int) (r2 : List (S61)) (r3 : List Int) (r4 : List Int) (w : World) (hr0 : Kd.C k29 w (some adp0) l0.length l0) (h : impl_Network_merged.f k l0 = some (r1, r2, r3, r4)) :
    Calls Try.prog 42 #[.pointer (some adp0)] w fun e w' => ∃ v1_ v2_ v3_ : Value, e = .returned (.tuple #[.agg #[.int .i8 r1, v1_, v2_], v3_]) ∧ Kd.R k61 61 w' w.heap.size (fun _ => True) v1_ r2 ∧ Kd.R (Kd.int .i16) 54 w' w.heap.size (fun k_ => some k_ ≠ (v3_ : Value).ownBlock) v2_ r3 ∧ Kd.R (Kd.int .i16) 54 w' w.heap.size (fun k_ => some k_ ≠ (v2_ : Value).ownBlock) v3_ r4 ∧ Below w.heap.size w w' := by
 have hu29 := Try.underlying29
 have hu61 := Try.underlying61
 have HR0 := Aside0.mk hr0
 clear hr0
 have HB := Aside0.mk (Below.refl w.heap.size w)
 have H : (if 0 < (l0.length : Int) then ((impl_Network_tables.f k l0).bind fun t174 => (impl_Network_merged.l0 k l0 (([] : List Int)) (([] : List Int)) t174 (t174.length : Int) 0 ((rd_T29 l0 0).f0) ([] : List (S61)))) else (none)) = some (r1, r2, r3, r4) := h
 clear h
 by_cases c2 : 0 < (l0.length : Int)
 rotate_left
 ·rw [if_neg c2] at H
  exact absurd H (by simp)
 rw [if_pos c2] at H
 have c2b0 : decide (0 < (l0.length : Int)) = true := decide_eq_true c2
 have c2b1 : decide (0 < l0.length) = true := decide_eq_true (by omega)
 clear c2
 obtain ⟨y167, hy167⟩ : ∃ y_ : List Int, y_ = (([] : List Int)) := ⟨_, rfl⟩
 replace H : ((impl_Network_tables.f k l0).bind fun t174 => (impl_Network_merged.l0 k l0 y167 (([] : List Int)) t174 (t174.length : Int) 0 ((rd_T29 l0 0).f0) ([] : List (S61)))) = some (r1, r2, r3, r4) := by first | (rw [hy167]; with_reducible exact H) | (have H2_ := (Option.bind_some _ _).symm.trans H; rw [hy167]; with_reducible exact H2_) | (have H2_ := (Option.bind_some _ _).symm.trans H; with_reducible exact H2_) | with_reducible exact H | (rw [hy167]; exact H) | exact H
 have Ny167 := Aside0.mk hy167
 clear hy167
 obtain ⟨y170, hy170⟩ : ∃ y_ : List Int, y_ = (([] : List Int)) := ⟨_, rfl⟩
 replace H : ((impl_Network_tables.f k l0).bind fun t174 => (impl_Network_merged.l0 k l0 y167 y170 t174 (t174.length : Int) 0 ((rd_T29 l0 0).f0) ([] : List (S61)))) = some (r1, r2, r3, r4) := by first | (rw [hy170]; with_reducible exact H) | (have H2_ := (Option.bind_some _ _).symm.trans H; rw [hy170]; with_reducible exact H2_) | (have H2_ := (Option.bind_some _ _).symm.trans H; with_reducible exact H2_) | with_reducible exact H | (rw [hy170]; exact H) | exact H
 have Ny170 := Aside0.mk hy170
 clear hy170
 replace H := zob H
 obtain ⟨t174, A30, H⟩ := H
 replace H : (impl_Network_merged.l0 k l0 y167 y170 t174 (t174.length : Int) 0 ((rd_T29 l0 0).f0) ([] : List (S61))) = some (r1, r2, r3, r4) := H
 have A3 := Aside0.mk A30
 clear A30
 have H' := Aside0.mk H
 clear H
 go_enter Try.func42, Try.ntmps42
 go_wp2_with (first | ((with_reducible refine gate_dst (N := 2) rfl ?_); refine zbx 2 #[.int .i8 0, .slice none 0 0, .slice none 0 0] 29 ?_; intro gb165 hg w4 hbox hb; have n_ : _ ∧ _ ∧ _ ∧ _ := ⟨zb HB hb, Aside0.mk (hbox), zg HB hg, zg HB hg⟩; clear HB; obtain ⟨HB, BK165, GW165, GE165⟩ := n_; clear hb hbox hg; have p166 : 0 ≤ (0 : Int) := (by omega); have q166 : 0 < (l0.length : Int) := of_decide_eq_true zA; obtain ⟨ad166, A166_1, c166_1, A166_2, c166_2, e166, hx166_0, hx166_1, hx166_2, hl166_1, hi166_1, hl166_2, hi166_2⟩ := at_T29 HR0.out 0 p166 q166; obtain rfl : adp0 = ad166 := (by injection e166); have qi166 : (0 < l0.length) = True := eq_true (by omega); (try simp only [z00, Nat.zero_mul, Addr.add_zero'] at hx166_0 hx166_1 hx166_2); replace hx166_0 := zc HB hx166_0; replace hx166_1 := zc HB hx166_1; replace hx166_2 := zc HB hx166_2; have HR166_1 := Aside0.mk hi166_1; have HC166_1 := Aside0.mk hl166_1; clear hi166_1 hl166_1; have HR166_2 := Aside0.mk hi166_2; have HC166_2 := Aside0.mk hl166_2; clear hi166_2 hl166_2; replace p166 := eq_true p166; replace q166 := eq_true q166) | ((with_reducible refine gate_dst (N := 15) rfl ?_); refine Kd.R_lit (Kd.int .i16) _ 54 ?hg (N := 15) ?hd (xs := ([] : List Int)) (inner := []) (ok := fun _ => True) (okp := fun _ => True) ?hr ?hp (fun _ hk => hk) trivial (Below.refl _ _) (Nat.le_refl _) (by simp) ?_; (case hd => rfl); (case hg => rfl); (case hr => exact zgs); (case hp => exact (Reps.none _ _)); intro v168 w5 ho6 hb hg_ hnew_; clear hg_ hnew_; (first | rw [← Ny167.out] at ho6 | (simp only [Int.reduceToNat] at ho6; rw [← Ny167.out] at ho6)); have n_ : _ ∧ _ ∧ _ := ⟨Aside0.mk (Kd.R_lower ho6 (zz HB)), zk BK165 hb, zbs hb⟩; clear BK165 HB; obtain ⟨HO169, BK165, HB⟩ := n_; clear hb ho6) | ((with_reducible refine gate_dst (N := 16) rfl ?_); refine Kd.R_lit (Kd.int .u64) _ 66 ?hg (N := 16) ?hd (xs := ([] : List Int)) (inner := []) (ok := fun _ => True) (okp := fun _ => True) ?hr ?hp (fun _ hk => hk) trivial (Below.refl _ _) (Nat.le_refl _) (by simp) ?_; (case hd => rfl); (case hg => rfl); (case hr => exact zgs); (case hp => exact (Reps.none _ _)); intro v171 w7 ho8 hb hg_ hnew_; clear hg_ hnew_; (first | rw [← Ny170.out] at ho8 | (simp only [Int.reduceToNat] at ho8; rw [← Ny170.out] at ho8)); have n_ : _ ∧ _ ∧ _ ∧ _ := ⟨zr HO169 hb, Aside0.mk (Kd.R_lower ho8 (zz HB)), zk BK165 hb, zbs hb⟩; clear HO169 BK165 HB; obtain ⟨HO169, HO172, BK165, HB⟩ := n_; clear hb ho8) | ((with_reducible refine gate_dst (N := 4) rfl ?_); refine zbx 4 #[.int .i8 0, .slice none 0 0, .slice none 0 0] 29 ?_; intro gb173 hg w9 hbox hb; have n_ : _ ∧ _ ∧ _ ∧ _ ∧ _ ∧ _ ∧ _ ∧ _ ∧ _ := ⟨zr HO169 hb, zr HO172 hb, zk BK165 hb, zbs hb, Aside0.mk (hbox), zg HB hg, zg HB hg, zn1 BK165 hg, zn2 BK165 hg⟩; clear HO169 HO172 BK165 HB; obtain ⟨HO169, HO172, BK165, HB, BK173, GW173, GE173, NB165_173, NB173_165⟩ := n_; clear hb hbox hg; have hnb10 := NB173_165.out; have hnc10 := NB165_173.out; obtain ⟨z11_0, z11_1, z11_2, y11_0, y11_1, y11_2⟩ := zB3 BK173) | ((with_reducible refine gate_callee (f := 49) rfl ?_); refine goesL_ (some 18) rfl rfl Try.func49 (by kernel_rfl) rfl #[.pointer (some adp0)] rfl zm ?_; (with_reducible refine (impl_Network_tables.calls k _ l0 t174 _ ?side1 A3.out).mono ?_); (case side1 => exact Kd.C_below HR0.out zbo); rintro e w12 ⟨v175, rfl, ho0, hb⟩; refine ⟨_, rfl, ?_⟩; have n_ : _ ∧ _ ∧ _ ∧ _ ∧ _ ∧ _ := ⟨zsb HO169 BK173 hb, Aside0.mk (Kd.R_elder' (zs HO172 BK173).out (Kd.R_base ho0) hb), Aside0.mk (Kd.R_lower (Kd.R_new' ho0 (Kd.R_lt (zs HO172 BK173).out)) (zz HB)), zfb BK165 NB165_173 hb, Aside0.mk (blk_below (g := gb173) (o := .cells #[.int .i8 ((rd_T29 l0 0).f0), .slice none 0 0, .slice none 0 0] 29 (0, 0)) (zp BK173) hb), zbs hb⟩; clear HO169 HO172 BK165 BK173 HB; obtain ⟨HO169, HO172, HO176, BK165, BK173, HB⟩ := n_; (try clear hb); (try clear hb2); (try clear hk); (try clear hi); (try clear ho0); obtain ⟨Ao13, co13, eo13⟩ := Kd.R_slice HO176.out; subst eo13))
 go_loopg [5, 6, 20] k (fun kq v5 v6 v20 w' => ∃ (x5_1 : List Int) (x6_1 : List Int) (x20_1 : Int) (x174001_1 : List (S61)) (u174001 : Value), v20 = .int .i64 x20_1 ∧ Aside0 (impl_Network_merged.l0 kq l0 x5_1 x6_1 t174 (t174.length : Int) x20_1 ((rd_T29 l0 0).f0) x174001_1 = some (r1, r2, r3, r4)) ∧ Aside0 (kq ≤ k) ∧ Aside0 (Kd.R (Kd.int .i16) 54 w' w.heap.size (fun _ => True) v5 x5_1) ∧ Aside0 (Kd.R (Kd.int .u64) 66 w' w.heap.size (fun k_ => some k_ ≠ ((.slice Ao13 t174.length co13) : Value).ownBlock) v6 x6_1) ∧ Aside0 (Kd.R (Kd.int .u64) 66 w' w.heap.size (fun k_ => some k_ ≠ (v6 : Value).ownBlock) (.slice Ao13 t174.length co13) t174) ∧ Aside0 (Kd.R k61 61 w' w.heap.size (fun _ => True) u174001 x174001_1) ∧ Aside0 (w'.heap[gb165]? = some (.cells #[.int .i8 0, (.slice none 0 0), (.slice none 0 0)] 29 (0, 0))) ∧ Aside0 (w'.heap[gb173]? = some (.cells #[.int .i8 ((rd_T29 l0 0).f0), u174001, (.slice none 0 0)] 29 (0, 0))) ∧ Aside0 (Below w.heap.size w w'))
 case atStart => exact ⟨(y167), (y170), (0), (([] : List (S61))), (.slice none 0 0), zi, H', ⟨Nat.le_refl _⟩, ze HO169, ⟨by (with_reducible repeat (first | apply Kd.R_alloc | apply Kd.R_drewN | apply Kd.R_drew)); exact Kd.R_mono HO172.out (fun _ hk => hk.2)⟩, ⟨by (with_reducible repeat (first | apply Kd.R_alloc | apply Kd.R_drewN | apply Kd.R_drew)); exact Kd.R_mono HO176.out (fun _ hk => hk.2)⟩, ⟨by first | exact Kd.R_nil _ _ _ _ _ | exact Kd.N_nil _ _ _ _ _ | exact Kd.V_nil _ _ _ _ _ | exact Kd.Q_nil _ _ _ _ _ | exact Kd.S_nil _ _ _ _ _⟩, zh BK165, zh BK173, zba⟩
 clear H'
 try clear c1
 try clear p1
 try clear q1
 try clear hx1
 try clear qi1
 try clear c2
 try clear c2b0
 try clear c2b1
 try clear p2
 try clear c4
 try clear c10
 try clear z11_0 z11_1 z11_2 y11_0 y11_1 y11_2
 try clear hx166_0
 try clear hx166_1
 try clear hx166_2
 try clear p166
 try clear q166
 obtain ⟨x5_1, x6_1, x20_1, x174001_1, u174001, rfl, HA, HK1, HO_5, HO_6, HO_18, HO_174001, BK165, BK173, HB⟩ := hrel
 cases gk with
 | zero => exact absurd HA.out (by simp [impl_Network_merged.l0])
 | succ k1 => ?_
 have H := HA.out
 clear HA
 simp only [impl_Network_merged.l0] at H
 by_cases c14 : x20_1 < (t174.length : Int)
 rotate_left
 ·rw [if_neg c14] at H
  have c14b0 : decide (x20_1 < (t174.length : Int)) = false := decide_eq_false c14
  clear c14
  by_cases c37 : 0 < (l0.length : Int)
  rotate_left
  ·rw [if_neg c37] at H
   exact absurd H (by simp)
  rw [if_pos c37] at H
  have c37b0 : decide (0 < (l0.length : Int)) = true := decide_eq_true c37
  have c37b1 : decide (0 < l0.length) = true := decide_eq_true (by omega)
  clear c37
  replace H := zob H
  obtain ⟨t178, A380, H⟩ := H
  replace H : (some (((rd_T29 l0 0).f0), x174001_1, t178, x5_1)) = some (r1, r2, r3, r4) := H
  have A38 := Aside0.mk A380
  clear A380
  simp only [Option.some.injEq, Prod.mk.injEq] at H
  obtain ⟨rfl, rfl, rfl, rfl⟩ := H
  have p177 : 0 ≤ (0 : Int) := (by omega)
  have q177 : 0 < (l0.length : Int) := of_decide_eq_true zA
  obtain ⟨ad177, A177_1, c177_1, A177_2, c177_2, e177, hx177_0, hx177_1, hx177_2, hl177_1, hi177_1, hl177_2, hi177_2⟩ := at_T29 HR0.out 0 p177 q177
  obtain rfl : adp0 = ad177 := (by injection e177)
  have qi177 : (0 < l0.length) = True := eq_true (by omega)
  try simp only [z00, Nat.zero_mul, Addr.add_zero'] at hx177_0 hx177_1 hx177_2
  replace hx177_0 := zc HB hx177_0
  replace hx177_1 := zc HB hx177_1
  replace hx177_2 := zc HB hx177_2
  have HR177_1 := Aside0.mk hi177_1
  have HC177_1 := Aside0.mk hl177_1
  clear hi177_1 hl177_1
  have HR177_2 := Aside0.mk hi177_2
  have HC177_2 := Aside0.mk hl177_2
  clear hi177_2 hl177_2
  replace p177 := eq_true p177
  replace q177 := eq_true q177
  obtain ⟨Ao39, co39, eo39⟩ := Kd.R_slice HO_5.out
  subst eo39
  go_wp2_with (first | ((with_reducible refine gate_callee (f := 53) rfl ?_); refine goesL_ (some 61) rfl rfl Try.func53 (by kernel_rfl) rfl #[.slice A177_2 ((rd_T29 l0 0).f2).length c177_2, .slice Ao39 x5_1.length co39] rfl zm ?_; (with_reducible refine (impl_renamedAll.calls k1 _ _ ((rd_T29 l0 0).f2) _ _ x5_1 t178 _ ?side1 ?side2 ?side3 ?side4 A38.out).mono ?_); (case side1 => exact zcc HB HR177_2.out); (case side2 => exact HC177_2.out); (case side3 => exact zrc HO_5); (case side4 => exact (Kd.R_reads' HO_5.out).2.1); rintro e w40 ⟨v179, rfl, ho0, hb⟩; refine ⟨_, rfl, ?_⟩; have n_ : _ ∧ _ ∧ _ ∧ _ ∧ _ ∧ _ ∧ _ ∧ _ := ⟨Aside0.mk (Kd.R_elder' (ze HO_5).out (Kd.R_base ho0) hb), zr HO_6 hb, zr HO_18 hb, zr HO_174001 hb, Aside0.mk (Kd.R_lower (Kd.R_new' ho0 (Kd.R_lt (ze HO_5).out)) (zz HB)), zk BK165 hb, zk BK173 hb, zbs hb⟩; clear HO_5 HO_6 HO_18 HO_174001 BK165 BK173 HB; obtain ⟨HO_5, HO_6, HO_18, HO_174001, HO180, BK165, BK173, HB⟩ := n_; (try clear hb); (try clear hb2); (try clear hk); (try clear hi); (try clear ho0); obtain ⟨Ao41, co41, eo41⟩ := Kd.R_slice HO180.out; subst eo41; have hnb42 := NB173_165.out; have hnc42 := NB165_173.out; obtain ⟨z43_0, z43_1, z43_2, y43_0, y43_1, y43_2⟩ := zB3 BK173; obtain ⟨z44_0, z44_1, z44_2, y44_0, y44_1, y44_2⟩ := zB3 BK165; obtain ⟨Ao45, co45, eo45⟩ := Kd.R_slice HO_174001.out; subst eo45))
  refine bodyPost_ret (results_ct rfl _ _ gb165 29 #[.int .i8 ((rd_T29 l0 0).f0), .slice Ao45 x174001_1.length co45, .slice Ao41 t178.length co41] (0, 0) _ rfl (by (with_reducible repeat (first | refine blk_drewN ?_ _ | refine blk_drew ?_ | refine blk_alloc ?_ _)); refine blk_put (cs := #[.int .i8 ((rd_T29 l0 0).f0), .slice Ao45 x174001_1.length co45, .slice none 0 0]) ?_ 2 _ rfl; (with_reducible repeat (first | refine blk_drewN ?_ _ | refine blk_drew ?_ | refine blk_alloc ?_ _)); refine blk_put (cs := #[.int .i8 ((rd_T29 l0 0).f0), .slice none 0 0, .slice none 0 0]) ?_ 1 _ rfl; (with_reducible repeat (first | refine blk_drewN ?_ _ | refine blk_drew ?_ | refine blk_alloc ?_ _)); refine blk_put (cs := #[.int .i8 0, .slice none 0 0, .slice none 0 0]) ?_ 0 _ rfl; (with_reducible repeat (first | refine blk_drewN ?_ _ | refine blk_drew ?_ | refine blk_alloc ?_ _)); refine blk_far ?_ NB165_173.out _; (with_reducible repeat (first | refine blk_drewN ?_ _ | refine blk_drew ?_ | refine blk_alloc ?_ _)); exact BK165.out) Try.underlying29 rfl (by kernel_rfl)) rfl ?_
  exact ⟨_, _, _, zv, by (with_reducible repeat (first | apply Kd.R_alloc | apply Kd.R_drewN | apply Kd.R_drew)); exact Kd.R_mono (Kd.R_far (p := ⟨gb165, 2, none⟩) (Kd.R_far (p := ⟨gb165, 1, none⟩) (Kd.R_far (p := ⟨gb165, 0, none⟩) (Kd.R_far (p := ⟨gb173, 2, none⟩) (Kd.R_types (Kd.R_types HO_174001.out BK173.out (by decide)) BK165.out (by decide)) (fun _ hk => hk.1.2) (.slice Ao41 t178.length co41)) (fun _ hk => hk.2) (.int .i8 ((rd_T29 l0 0).f0))) (fun _ hk => hk.2) (.slice Ao45 x174001_1.length co45)) (fun _ hk => hk.2) (.slice Ao41 t178.length co41)) (fun _ hk => trivial), by (with_reducible repeat (first | apply Kd.R_alloc | apply Kd.R_drewN | apply Kd.R_drew)); exact Kd.R_mono (Kd.R_far (p := ⟨gb165, 2, none⟩) (Kd.R_far (p := ⟨gb165, 1, none⟩) (Kd.R_far (p := ⟨gb165, 0, none⟩) (Kd.R_far (p := ⟨gb173, 2, none⟩) (Kd.R_types (Kd.R_types HO180.out BK173.out (by decide)) BK165.out (by decide)) (fun _ hk => hk.1.2) (.slice Ao41 t178.length co41)) (fun _ hk => hk.2) (.int .i8 ((rd_T29 l0 0).f0))) (fun _ hk => hk.2) (.slice Ao45 x174001_1.length co45)) (fun _ hk => hk.2) (.slice Ao41 t178.length co41)) (fun _ hk => hk.1.1.2), by (with_reducible repeat (first | apply Kd.R_alloc | apply Kd.R_drewN | apply Kd.R_drew)); exact Kd.R_mono (Kd.R_far (p := ⟨gb165, 2, none⟩) (Kd.R_far (p := ⟨gb165, 1, none⟩) (Kd.R_far (p := ⟨gb165, 0, none⟩) (Kd.R_far (p := ⟨gb173, 2, none⟩) (Kd.R_types (Kd.R_types HO_5.out BK173.out (by decide)) BK165.out (by decide)) (fun _ hk => hk.1.2) (.slice Ao41 t178.length co41)) (fun _ hk => hk.2) (.int .i8 ((rd_T29 l0 0).f0))) (fun _ hk => hk.2) (.slice Ao45 x174001_1.length co45)) (fun _ hk => hk.2) (.slice Ao41 t178.length co41)) (fun _ hk => hk.1.1.2), zbo⟩
 rw [if_pos c14] at H
 have c14b0 : decide (x20_1 < (t174.length : Int)) = true := decide_eq_true c14
 clear c14
 by_cases c15 : 0 ≤ x20_1
 rotate_left
 ·rw [if_neg c15] at H
  exact absurd H (by simp)
 rw [if_pos c15] at H
 have c15b0 : decide (0 ≤ x20_1) = true := decide_eq_true c15
 clear c15
 by_cases c16 : x20_1 < (t174.length : Int)
 rotate_left
 ·rw [if_neg c16] at H
  exact absurd H (by simp)
 rw [if_pos c16] at H
 have c16b0 : decide (x20_1 < (t174.length : Int)) = true := decide_eq_true c16
 clear c16
 replace H := zob H
 obtain ⟨t182, A170, H⟩ := H
 replace H : (if t182 < 0 then (if x6_1.length < 17592186044416 then (if 0 < (l0.length : Int) then (if x20_1 < (((rd_T29 l0 0).f1).length : Int) then ((impl_Node_renamed.f ((rd_T61 ((rd_T29 l0 0).f1) x20_1).f0) ((rd_T61 ((rd_T29 l0 0).f1) x20_1).f1) ((rd_T61 ((rd_T29 l0 0).f1) x20_1).f2) x5_1).bind fun bt188 => (if x174001_1.length < 23456248059221 then (if x5_1.length < 70368744177664 then (impl_Network_merged.l0 k1 l0 (x5_1 ++ [IntKind.i16.wrap ((x6_1.length : Int))]) (x6_1 ++ [rd t174 x20_1]) t174 (t174.length : Int) (wrap64 (x20_1 + 1)) ((rd_T29 l0 0).f0) (x174001_1 ++ [(⟨bt188.1, bt188.2.1, bt188.2.2⟩ : S61)])) else (none)) else (none))) else (none)) else (none)) else (none)) else (if x5_1.length < 70368744177664 then (impl_Network_merged.l0 k1 l0 (x5_1 ++ [IntKind.i16.wrap (t182)]) x6_1 t174 (t174.length : Int) (wrap64 (x20_1 + 1)) ((rd_T29 l0 0).f0) x174001_1) else (none))) = some (r1, r2, r3, r4) := H
 have A17 := Aside0.mk A170
 clear A170
 by_cases c18 : t182 < 0
 rotate_left
 ·rw [if_neg c18] at H
  have c18b0 : decide (t182 < 0) = false := decide_eq_false c18
  clear c18
  by_cases c34 : x5_1.length < 70368744177664
  rotate_left
  ·rw [if_neg c34] at H
   exact absurd H (by simp)
  rw [if_pos c34] at H
  have LMc34 := Aside0.mk c34
  clear c34
  obtain ⟨y197, hy197⟩ : ∃ y_ : List Int, y_ = (x5_1 ++ [IntKind.i16.wrap (t182)]) := ⟨_, rfl⟩
  replace H : (impl_Network_merged.l0 k1 l0 y197 x6_1 t174 (t174.length : Int) (wrap64 (x20_1 + 1)) ((rd_T29 l0 0).f0) x174001_1) = some (r1, r2, r3, r4) := by first | (rw [hy197]; with_reducible exact H) | (have H2_ := (Option.bind_some _ _).symm.trans H; rw [hy197]; with_reducible exact H2_) | (have H2_ := (Option.bind_some _ _).symm.trans H; with_reducible exact H2_) | with_reducible exact H | (rw [hy197]; exact H) | exact H
  have Ny197 := Aside0.mk hy197
  clear hy197
  have H' := Aside0.mk H
  clear H
  have p181 : 0 ≤ (x20_1 : Int) := of_decide_eq_true zA
  have q181 : x20_1 < (t174.length : Int) := of_decide_eq_true zA
  obtain ⟨ad181, e181, hx181_0⟩ := Kd.at_int (Kd.R_reads' HO_18.out).2.2 x20_1 p181 q181
  cases e181
  replace p181 := eq_true p181
  replace q181 := eq_true q181
  obtain ⟨Ao35, co35, eo35⟩ := Kd.R_slice HO_6.out
  subst eo35
  go_wp2_with (first | ((with_reducible refine gate_callee (f := 51) rfl ?_); refine goesL_ (some 27) rfl rfl Try.func51 (by kernel_rfl) rfl #[.slice Ao35 x6_1.length co35, .int .u64 (rd t174 x20_1)] rfl zm ?_; (with_reducible refine (slices_Index_uint64_uint64.calls k1 _ _ x6_1 (rd t174 x20_1) t182 _ ?side1 ?side2 A17.out).mono ?_); (case side1 => exact zrc HO_6); (case side2 => exact (Kd.R_reads' HO_6.out).2.1); rintro e w' ⟨rfl, ⟨nd, rfl⟩⟩; refine ⟨_, rfl, ?_⟩) | ((with_reducible refine gate_builtin (b := .append) (xs := #[.tmp 50, .tmp 53]) rfl ?_); at_builtin; refine Kd.R_append (Kd.int .i16) (w0 := w) w.heap.size rfl (.tmp 50) (.tmp 53) 27 54 (.int .i16 0) 2 rfl Try.underlying27 info54 rfl (by decide) (by omega) u5 x5_1 (IntKind.i16.wrap (t182)) [.int .i16 (IntKind.i16.wrap (t182))] (fun _ => True) (fun _ => False) rfl rfl ?aP (fun _ hk => hk.elim) ?aF ?aO ?aB ?aS ?aL ?_; (case aP => exact rfl); (case aB => exact zbo); (case aF => exact (fun _ _ => trivial)); (case aO => exact (ze HO_5).out); (case aS => exact (zz HB)); (case aL => have := LMc34.out; omega); intro v198 w36 ho hb hg hat; rw [← Ny197.out] at ho; have n_ : _ ∧ _ ∧ _ ∧ _ ∧ _ ∧ _ ∧ _ := ⟨Aside0.mk (Kd.R_over' (ze HO_6).out (Kd.R_typed (ze HO_5).out) (by decide) hg), Aside0.mk (Kd.R_over' (ze HO_18).out (Kd.R_typed (ze HO_5).out) (by decide) hg), Aside0.mk (Kd.R_over' (ze HO_174001).out (Kd.R_typed (ze HO_5).out) (by decide) hg), Aside0.mk (blk_grown (g := gb165) (o := .cells #[.int .i8 0, .slice none 0 0, .slice none 0 0] 29 (0, 0)) (zh BK165).out hg (Kd.R_ne HO_5.out BK165.out (by decide))), Aside0.mk (blk_grown (g := gb173) (o := .cells #[.int .i8 ((rd_T29 l0 0).f0), u174001, .slice none 0 0] 29 (0, 0)) (zh BK173).out hg (Kd.R_ne HO_5.out BK173.out (by decide))), Aside0.mk (hb), Aside0.mk (ho)⟩; clear HO_6 HO_18 HO_174001 BK165 BK173 HB HO_5; obtain ⟨HO_6, HO_18, HO_174001, BK165, BK173, HB, HO199⟩ := n_; clear ho hb hg hat))
  go_roundg k1
  case measure => have := HK1.out; omega
  case rel => exact ⟨(y197), (x6_1), (wrap64 (x20_1 + 1)), (x174001_1), (u174001), zi, H', ⟨by have := HK1.out; omega⟩, ze HO199, ze HO_6, ze HO_18, ze HO_174001, zh BK165, zh BK173, zba⟩
 rw [if_pos c18] at H
 have c18b0 : decide (t182 < 0) = true := decide_eq_true c18
 clear c18
 by_cases c19 : x6_1.length < 17592186044416
 rotate_left
 ·rw [if_neg c19] at H
  exact absurd H (by simp)
 rw [if_pos c19] at H
 have LMc19 := Aside0.mk c19
 clear c19
 obtain ⟨y183, hy183⟩ : ∃ y_ : List Int, y_ = (x6_1 ++ [rd t174 x20_1]) := ⟨_, rfl⟩
 replace H : (if 0 < (l0.length : Int) then (if x20_1 < (((rd_T29 l0 0).f1).length : Int) then ((impl_Node_renamed.f ((rd_T61 ((rd_T29 l0 0).f1) x20_1).f0) ((rd_T61 ((rd_T29 l0 0).f1) x20_1).f1) ((rd_T61 ((rd_T29 l0 0).f1) x20_1).f2) x5_1).bind fun bt188 => (if x174001_1.length < 23456248059221 then (if x5_1.length < 70368744177664 then (impl_Network_merged.l0 k1 l0 (x5_1 ++ [IntKind.i16.wrap ((x6_1.length : Int))]) y183 t174 (t174.length : Int) (wrap64 (x20_1 + 1)) ((rd_T29 l0 0).f0) (x174001_1 ++ [(⟨bt188.1, bt188.2.1, bt188.2.2⟩ : S61)])) else (none)) else (none))) else (none)) else (none)) = some (r1, r2, r3, r4) := by first | (rw [hy183]; with_reducible exact H) | (have H2_ := (Option.bind_some _ _).symm.trans H; rw [hy183]; with_reducible exact H2_) | (have H2_ := (Option.bind_some _ _).symm.trans H; with_reducible exact H2_) | with_reducible exact H | (rw [hy183]; exact H) | exact H
 have Ny183 := Aside0.mk hy183
 clear hy183
 by_cases c20 : 0 < (l0.length : Int)
 rotate_left
 ·rw [if_neg c20] at H
  exact absurd H (by simp)
 rw [if_pos c20] at H
 have c20b0 : decide (0 < (l0.length : Int)) = true := decide_eq_true c20
 have c20b1 : decide (0 < l0.length) = true := decide_eq_true (by omega)
 clear c20
 by_cases c21 : x20_1 < (((rd_T29 l0 0).f1).length : Int)
 rotate_left
 ·rw [if_neg c21] at H
  exact absurd H (by simp)
 rw [if_pos c21] at H
 have c21b0 : decide (x20_1 < (((rd_T29 l0 0).f1).length : Int)) = true := decide_eq_true c21
 clear c21
 replace H := zob H
 obtain ⟨⟨t188, t189, t190⟩, A220, H⟩ := H
 replace H : (if x174001_1.length < 23456248059221 then (if x5_1.length < 70368744177664 then (impl_Network_merged.l0 k1 l0 (x5_1 ++ [IntKind.i16.wrap ((x6_1.length : Int))]) y183 t174 (t174.length : Int) (wrap64 (x20_1 + 1)) ((rd_T29 l0 0).f0) (x174001_1 ++ [(⟨t188, t189, t190⟩ : S61)])) else (none)) else (none)) = some (r1, r2, r3, r4) := H
 have A22 := Aside0.mk A220
 clear A220
 by_cases c23 : x174001_1.length < 23456248059221
 rotate_left
 ·rw [if_neg c23] at H
  exact absurd H (by simp)
 rw [if_pos c23] at H
 have LMc23 := Aside0.mk c23
 clear c23
 obtain ⟨y191, hy191⟩ : ∃ y_ : List (S61), y_ = (x174001_1 ++ [(⟨t188, t189, t190⟩ : S61)]) := ⟨_, rfl⟩
 replace H : (if x5_1.length < 70368744177664 then (impl_Network_merged.l0 k1 l0 (x5_1 ++ [IntKind.i16.wrap ((x6_1.length : Int))]) y183 t174 (t174.length : Int) (wrap64 (x20_1 + 1)) ((rd_T29 l0 0).f0) y191) else (none)) = some (r1, r2, r3, r4) := by first | (rw [hy191]; with_reducible exact H) | (have H2_ := (Option.bind_some _ _).symm.trans H; rw [hy191]; with_reducible exact H2_) | (have H2_ := (Option.bind_some _ _).symm.trans H; with_reducible exact H2_) | with_reducible exact H | (rw [hy191]; exact H) | exact H
 have Ny191 := Aside0.mk hy191
 clear hy191
 by_cases c24 : x5_1.length < 70368744177664
 rotate_left
 ·rw [if_neg c24] at H
  exact absurd H (by simp)
 rw [if_pos c24] at H
 have LMc24 := Aside0.mk c24
 clear c24
 obtain ⟨y194, hy194⟩ : ∃ y_ : List Int, y_ = (x5_1 ++ [IntKind.i16.wrap ((x6_1.length : Int))]) := ⟨_, rfl⟩
 replace H : (impl_Network_merged.l0 k1 l0 y194 y183 t174 (t174.length : Int) (wrap64 (x20_1 + 1)) ((rd_T29 l0 0).f0) y191) = some (r1, r2, r3, r4) := by first | (rw [hy194]; with_reducible exact H) | (have H2_ := (Option.bind_some _ _).symm.trans H; rw [hy194]; with_reducible exact H2_) | (have H2_ := (Option.bind_some _ _).symm.trans H; with_reducible exact H2_) | with_reducible exact H | (rw [hy194]; exact H) | exact H
 have Ny194 := Aside0.mk hy194
 clear hy194
 have H' := Aside0.mk H
 clear H
 have p181 : 0 ≤ (x20_1 : Int) := of_decide_eq_true zA
 have q181 : x20_1 < (t174.length : Int) := of_decide_eq_true zA
 obtain ⟨ad181, e181, hx181_0⟩ := Kd.at_int (Kd.R_reads' HO_18.out).2.2 x20_1 p181 q181
 cases e181
 replace p181 := eq_true p181
 replace q181 := eq_true q181
 obtain ⟨Ao25, co25, eo25⟩ := Kd.R_slice HO_6.out
 subst eo25
 try go_wp2_with (first | ((with_reducible refine gate_callee (f := 51) rfl ?_); refine goesL_ (some 27) rfl rfl Try.func51 (by kernel_rfl) rfl #[.slice Ao25 x6_1.length co25, .int .u64 (rd t174 x20_1)] rfl zm ?_; (with_reducible refine (slices_Index_uint64_uint64.calls k1 _ _ x6_1 (rd t174 x20_1) t182 _ ?side1 ?side2 A17.out).mono ?_); (case side1 => exact zrc HO_6); (case side2 => exact (Kd.R_reads' HO_6.out).2.1); rintro e w' ⟨rfl, ⟨nd, rfl⟩⟩; refine ⟨_, rfl, ?_⟩; (try (rw [drewN_self wr]; generalize hq_ : World.drewN wr _ = wr; have n0_ : Aside0 (Kd.R k61 61 wr w.heap.size (fun _ => True) u174001 x174001_1) := ⟨by rw [← hq_]; exact (ze HO_174001).out⟩; have n1_ : Aside0 (Kd.R (Kd.int .u64) 66 wr w.heap.size (fun k_ => some k_ ≠ (.slice Ao25 x6_1.length co25 : Value).ownBlock) (.slice (some ad181) t174.length co13) t174) := ⟨by rw [← hq_]; exact (ze HO_18).out⟩; have n2_ : Aside0 (Kd.R (Kd.int .i16) 54 wr w.heap.size (fun _ => True) u5 x5_1) := ⟨by rw [← hq_]; exact (ze HO_5).out⟩; have n3_ : Aside0 (Kd.R (Kd.int .u64) 66 wr w.heap.size (fun k_ => some k_ ≠ (.slice (some ad181) t174.length co13 : Value).ownBlock) (.slice Ao25 x6_1.length co25) x6_1) := ⟨by rw [← hq_]; exact (ze HO_6).out⟩; have n4_ : Aside0 (wr.heap[gb165]? = some (.cells #[.int .i8 0, .slice none 0 0, .slice none 0 0] 29 (0, 0))) := ⟨by rw [← hq_]; exact (zh BK165).out⟩; have n5_ : Aside0 (wr.heap[gb173]? = some (.cells #[.int .i8 ((rd_T29 l0 0).f0), u174001, .slice none 0 0] 29 (0, 0))) := ⟨by rw [← hq_]; exact (zh BK173).out⟩; have n6_ : Aside0 (Below w.heap.size w wr) := ⟨by rw [← hq_]; exact zbo⟩; clear HO_174001 HO_18 HO_5 HO_6 BK165 BK173 HB hq_; have HO_174001 := n0_; have HO_18 := n1_; have HO_5 := n2_; have HO_6 := n3_; have BK165 := n4_; have BK173 := n5_; have HB := n6_; clear n0_ n1_ n2_ n3_ n4_ n5_ n6_))))
 have n_ : _ ∧ _ ∧ _ ∧ _ ∧ _ ∧ _ ∧ _ := ⟨Aside0.mk (Kd.R_drew HO_5.out), Aside0.mk (Kd.R_drew HO_6.out), Aside0.mk (Kd.R_drew HO_18.out), Aside0.mk (Kd.R_drew HO_174001.out), Aside0.mk (blk_drew BK165.out), Aside0.mk (blk_drew BK173.out), Aside0.mk (below_drew1 HB.out)⟩
 clear HO_5 HO_6 HO_18 HO_174001 BK165 BK173 HB
 obtain ⟨HO_5, HO_6, HO_18, HO_174001, BK165, BK173, HB⟩ := n_
 have p186 : 0 ≤ (0 : Int) := (by omega)
 have q186 : 0 < (l0.length : Int) := of_decide_eq_true zA
 obtain ⟨ad186, A186_1, c186_1, A186_2, c186_2, e186, hx186_0, hx186_1, hx186_2, hl186_1, hi186_1, hl186_2, hi186_2⟩ := at_T29 HR0.out 0 p186 q186
 have hw186_2 := hx186_2
 try simp only [z00, Nat.zero_mul, Addr.add_zero'] at hw186_2
 have hw186_1 := hx186_1
 try simp only [z00, Nat.zero_mul, Addr.add_zero'] at hw186_1
 have hw186_0 := hx186_0
 try simp only [z00, Nat.zero_mul, Addr.add_zero'] at hw186_0
 obtain rfl : adp0 = ad186 := (by injection e186)
 have qi186 : (0 < l0.length) = True := eq_true (by omega)
 try simp only [z00, Nat.zero_mul, Addr.add_zero'] at hx186_0 hx186_1 hx186_2
 replace hx186_0 := zc HB hx186_0
 replace hx186_1 := zc HB hx186_1
 replace hx186_2 := zc HB hx186_2
 have HR186_1 := Aside0.mk hi186_1
 have HC186_1 := Aside0.mk hl186_1
 clear hi186_1 hl186_1
 have HR186_2 := Aside0.mk hi186_2
 have HC186_2 := Aside0.mk hl186_2
 clear hi186_2 hl186_2
 replace p186 := eq_true p186
 replace q186 := eq_true q186
 have p187 : 0 ≤ (x20_1 : Int) := of_decide_eq_true zA
 have q187 : x20_1 < (((rd_T29 l0 0).f1).length : Int) := of_decide_eq_true zA
 obtain ⟨ad187, e187, hx187_0, hx187_1, hx187_2⟩ := at_T61 HR186_1.out x20_1 p187 q187
 have hw187_2 := hx187_2
 have hw187_1 := hx187_1
 have hw187_0 := hx187_0
 cases e187
 replace hx187_0 := zc HB hx187_0
 replace hx187_1 := zc HB hx187_1
 replace hx187_2 := zc HB hx187_2
 replace p187 := eq_true p187
 replace q187 := eq_true q187
 refine start_ (n := 20) (S := fun w' => w'.cell? ⟨gb173, 0, none⟩ = some (.int .i8 ((rd_T29 l0 0).f0)) ∧ w'.cell? ⟨gb173, 1, none⟩ = some (u174001) ∧ w'.cell? ⟨gb173, 2, none⟩ = some (.slice none 0 0) ∧ w'.cell? adp0 = some (.int .i8 ((rd_T29 l0 0).f0)) ∧ w'.cell? ⟨adp0.block, adp0.off + 1, none⟩ = some (.slice (some ad187) ((rd_T29 l0 0).f1).length c186_1) ∧ w'.cell? ⟨adp0.block, adp0.off + 2, none⟩ = some (.slice A186_2 ((rd_T29 l0 0).f2).length c186_2) ∧ w'.cell? (ad187.add ((x20_1).toNat * 3)) = some (.int .i8 ((rd_T61 ((rd_T29 l0 0).f1) x20_1).f0)) ∧ w'.cell? ⟨(ad187.add ((x20_1).toNat * 3)).block, (ad187.add ((x20_1).toNat * 3)).off + 1, none⟩ = some (.int .i16 ((rd_T61 ((rd_T29 l0 0).f1) x20_1).f1)) ∧ w'.cell? ⟨(ad187.add ((x20_1).toNat * 3)).block, (ad187.add ((x20_1).toNat * 3)).off + 2, none⟩ = some (.int .i16 ((rd_T61 ((rd_T29 l0 0).f1) x20_1).f2))) (ds := [19]) (zq 20 0) (by kernel_rfl) rfl rfl ⟨(blk_cell BK173.out 0).trans rfl, (blk_cell BK173.out 1).trans rfl, (blk_cell BK173.out 2).trans rfl, (zc HB hw186_0), (zc HB hw186_1), (zc HB hw186_2), (zc HB hw187_0), (zc HB hw187_1), (zc HB hw187_2)⟩ (fun hHeld => ?_); refine with_tabW impl_Network_merged.tab8 impl_Network_merged.bits8 (fun HT_ HW_ => ?_)
 generalize wr.drew = w26 at HO_5 HO_6 HO_18 HO_174001 BK165 BK173 HB HR186_1 HR186_2 hx186_0 hx186_1 hx186_2 hx187_0 hx187_1 hx187_2 hHeld ⊢
 refine zpu 0 (some 32) (zq 20 1) HT_ ?_
 refine zpu 1 (some 33) (zq 20 3) HT_ ?_
 refine zpu 4 (some 36) (zq 20 19) HT_ ?_
 refine zpu 6 (some 38) (zq 20 83) HT_ ?_
 refine zpu 7 (some 39) (zq 20 211) HT_ ?_
 refine zpu 8 (some 40) (zq 20 467) HT_ ?_
 refine zpu 10 (some 42) (zq 20 1491) HT_ ?_
 refine zpu 13 (some 45) (zq 20 9683) HT_ ?_
 refine ztk 5 (some 37) (zq 20 9715) HT_ HW_ rfl hHeld (Or.inl ⟨by rfl, by (rintro w' ⟨s0, s1, s2, s3, s4, s5, s6, s7, s8⟩; go_simp; with_reducible rfl)⟩) ?_
 refine ztk 9 (some 41) (zq 20 10227) HT_ HW_ rfl hHeld (Or.inl ⟨by rfl, by (rintro w' ⟨s0, s1, s2, s3, s4, s5, s6, s7, s8⟩; go_simp; with_reducible rfl)⟩) ?_
 refine zpu 11 (some 43) (zq 20 12275) HT_ ?_
 refine ztk 12 (some 44) (zq 20 16371) HT_ HW_ rfl hHeld (Or.inl ⟨by rfl, by (rintro w' ⟨s0, s1, s2, s3, s4, s5, s6, s7, s8⟩; go_simp; with_reducible rfl)⟩) ?_
 refine one_ (i := 2) (N := some 34) (zq 20 16375) rfl rfl (one_of HT_.out (by kernel_rfl)) (by decide) (fun K hK => ?_)
 refine value_ (w1 := ?_) (v := ?_) (by rfl) rfl ?_ ?_
 rotate_left 2
 ·go_simp
  constructor
  rotate_left
  ·rfl
  rfl
 refine hK.out _ _ ⟨(blk_cell (blk_alloc BK173.out _) 0).trans rfl, (blk_cell (blk_alloc BK173.out _) 1).trans rfl, (blk_cell (blk_alloc BK173.out _) 2).trans rfl, (World.cell?_alloc_lt _ _ _ (World.block_lt_of_cell? _ _ ((zc HB hw186_0)))).trans ((zc HB hw186_0)), (World.cell?_alloc_lt _ _ _ (World.block_lt_of_cell? _ _ ((zc HB hw186_1)))).trans ((zc HB hw186_1)), (World.cell?_alloc_lt _ _ _ (World.block_lt_of_cell? _ _ ((zc HB hw186_2)))).trans ((zc HB hw186_2)), (World.cell?_alloc_lt _ _ _ (World.block_lt_of_cell? _ _ ((zc HB hw187_0)))).trans ((zc HB hw187_0)), (World.cell?_alloc_lt _ _ _ (World.block_lt_of_cell? _ _ ((zc HB hw187_1)))).trans ((zc HB hw187_1)), (World.cell?_alloc_lt _ _ _ (World.block_lt_of_cell? _ _ ((zc HB hw187_2)))).trans ((zc HB hw187_2))⟩ (fun hHeld => ?_)
 clear hK K
 refine norm_ (a' := ?_) ?_ ?_
 rotate_left
 ·show Act.put _ (some 34) _ = _
  exact zap
 refine one_ (i := 3) (N := some 35) (zq 20 16383) rfl rfl (one_of HT_.out (by kernel_rfl)) (by decide) (fun K hK => ?_)
 refine Kd.R_append_step (Kd.int .u64) (w0 := w) w.heap.size (by rfl) (.tmp 32) (.tmp 34) 64 66 (.int .u64 0) 8 rfl Try.underlying64 info66 rfl (by decide) (by omega) (.slice Ao25 x6_1.length co25) x6_1 (rd t174 x20_1) [.int .u64 (rd t174 x20_1)] (fun k_ => some k_ ≠ (.slice (some ad181) t174.length co13 : Value).ownBlock) (fun _ => False) rfl rfl ?aP (fun _ hk => hk.elim) ?aF ?aO ?aB ?aS ?aL ?_
 (case aP => exact rfl)
 (case aB => exact zbo)
 (case aF => exact (fun k_ hk => Kd.fresh' (Kd.R_lt (ze HO_18).out) k_ hk))
 (case aO => exact (ze HO_6).out)
 (case aS => exact (zz HB))
 (case aL => have := LMc19.out; omega)
 intro v184 w27 ho hb hg hat
 rw [← Ny183.out] at ho
 have n_ : _ ∧ _ ∧ _ ∧ _ ∧ _ ∧ _ ∧ _ := ⟨Aside0.mk (Kd.R_over' (ze HO_5).out (Kd.R_typed (ze HO_6).out) (by decide) hg), Aside0.mk (Kd.R_after (ok := (fun _ => True)) (by (with_reducible repeat (first | apply Kd.R_alloc | apply Kd.R_drewN | apply Kd.R_drew)); exact Kd.R_mono HO_18.out (fun _ hk => ⟨trivial, hk⟩)) hg hat), Aside0.mk (Kd.R_over' (ze HO_174001).out (Kd.R_typed (ze HO_6).out) (by decide) hg), Aside0.mk (blk_grown (g := gb165) (o := .cells #[.int .i8 0, .slice none 0 0, .slice none 0 0] 29 (0, 0)) (zh BK165).out hg (Kd.R_ne HO_6.out BK165.out (by decide))), Aside0.mk (blk_grown (g := gb173) (o := .cells #[.int .i8 ((rd_T29 l0 0).f0), u174001, .slice none 0 0] 29 (0, 0)) (zh BK173).out hg (Kd.R_ne HO_6.out BK173.out (by decide))), Aside0.mk (hb), Aside0.mk (ho)⟩
 clear HO_5 HO_18 HO_174001 BK165 BK173 HB HO_6
 obtain ⟨HO_5, HO_18, HO_174001, BK165, BK173, HB, HO185⟩ := n_
 clear ho hb hg hat
 obtain ⟨Ao28, co28, eo28⟩ := Kd.R_slice HO_5.out
 (first | subst eo28 | (injection eo28 with f1_ f2_ f3_; have f4_ := f1_.symm; have f5_ := f3_.symm; clear f1_ f2_ f3_; subst f4_; subst f5_))
 refine hK.out _ _ ⟨(blk_cell BK173.out 0).trans rfl, (blk_cell BK173.out 1).trans rfl, (blk_cell BK173.out 2).trans rfl, (zc HB hw186_0), (zc HB hw186_1), (zc HB hw186_2), (zc HB hw187_0), (zc HB hw187_1), (zc HB hw187_2)⟩ (fun hHeld => ?_)
 clear hK K
 refine norm_ (a' := ?_) ?_ ?_
 rotate_left
 ·show Act.put _ (some 35) _ = _
  exact zap
 refine one_ (i := 14) (N := some 46) (zq 20 32767) rfl rfl (one_of HT_.out (by kernel_rfl)) (by decide) (fun K hK => ?_)
 refine goes_ Try.func52 (by kernel_rfl) rfl #[.agg #[.int .i8 ((rd_T61 ((rd_T29 l0 0).f1) x20_1).f0), .int .i16 ((rd_T61 ((rd_T29 l0 0).f1) x20_1).f1), .int .i16 ((rd_T61 ((rd_T29 l0 0).f1) x20_1).f2)], .slice Ao28 x5_1.length co28] (by rfl) rfl rfl zm ?_
 with_reducible refine (impl_Node_renamed.calls ((rd_T61 ((rd_T29 l0 0).f1) x20_1).f0) ((rd_T61 ((rd_T29 l0 0).f1) x20_1).f1) ((rd_T61 ((rd_T29 l0 0).f1) x20_1).f2) _ _ x5_1 t188 t189 t190 _ ?side1 ?side2 A22.out).mono ?_
 (case side1 => exact zrc HO_5)
 (case side2 => exact (Kd.R_reads' HO_5.out).2.1)
 rintro e w29 ⟨rfl, hb⟩
 refine ⟨_, rfl, ?_⟩
 have n_ : _ ∧ _ ∧ _ ∧ _ ∧ _ ∧ _ ∧ _ := ⟨zr HO_5 hb, zr HO_18 hb, zr HO_174001 hb, zr HO185 hb, zk BK165 hb, zk BK173 hb, zbs hb⟩
 clear HO_5 HO_18 HO_174001 HO185 BK165 BK173 HB
 obtain ⟨HO_5, HO_18, HO_174001, HO185, BK165, BK173, HB⟩ := n_
 (try clear hb)
 (try clear hb2)
 (try clear hk)
 (try clear hi)
 refine hK.out _ _ ⟨(blk_cell BK173.out 0).trans rfl, (blk_cell BK173.out 1).trans rfl, (blk_cell BK173.out 2).trans rfl, (zc HB hw186_0), (zc HB hw186_1), (zc HB hw186_2), (zc HB hw187_0), (zc HB hw187_1), (zc HB hw187_2)⟩ (fun hHeld => ?_)
 clear hK K
 refine norm_ (a' := ?_) ?_ ?_
 rotate_left
 ·show Act.put _ (some 46) _ = _
  exact zap
 refine one_ (i := 15) (N := some 47) (zq 20 65535) rfl rfl (one_of HT_.out (by kernel_rfl)) (by decide) (fun K hK => ?_)
 refine value_ (w1 := ?_) (v := ?_) (by rfl) rfl ?_ ?_
 rotate_left 2
 ·go_simp
  constructor
  rotate_left
  ·rfl
  rfl
 refine hK.out _ _ ⟨(blk_cell (blk_alloc BK173.out _) 0).trans rfl, (blk_cell (blk_alloc BK173.out _) 1).trans rfl, (blk_cell (blk_alloc BK173.out _) 2).trans rfl, (World.cell?_alloc_lt _ _ _ (World.block_lt_of_cell? _ _ ((zc HB hw186_0)))).trans ((zc HB hw186_0)), (World.cell?_alloc_lt _ _ _ (World.block_lt_of_cell? _ _ ((zc HB hw186_1)))).trans ((zc HB hw186_1)), (World.cell?_alloc_lt _ _ _ (World.block_lt_of_cell? _ _ ((zc HB hw186_2)))).trans ((zc HB hw186_2)), (World.cell?_alloc_lt _ _ _ (World.block_lt_of_cell? _ _ ((zc HB hw187_0)))).trans ((zc HB hw187_0)), (World.cell?_alloc_lt _ _ _ (World.block_lt_of_cell? _ _ ((zc HB hw187_1)))).trans ((zc HB hw187_1)), (World.cell?_alloc_lt _ _ _ (World.block_lt_of_cell? _ _ ((zc HB hw187_2)))).trans ((zc HB hw187_2))⟩ (fun hHeld => ?_)
 clear hK K
 refine norm_ (a' := ?_) ?_ ?_
 rotate_left
 ·show Act.put _ (some 47) _ = _
  exact zap
 refine one_ (i := 16) (N := some 48) (zq 20 131071) rfl rfl (one_of HT_.out (by kernel_rfl)) (by decide) (fun K hK => ?_)
 refine Kd.R_append_step k61 (w0 := w) w.heap.size (by rfl) (.tmp 37) (.tmp 47) 26 61 (.agg #[(.int .i8 0), (.int .i16 0), (.int .i16 0)]) 6 rfl Try.underlying26 info61 rfl (by decide) (by omega) u174001 x174001_1 (⟨t188, t189, t190⟩ : S61) [.int .i8 t188, .int .i16 t189, .int .i16 t190] (fun _ => True) (fun _ => False) rfl rfl ?aP (fun _ hk => hk.elim) ?aF ?aO ?aB ?aS ?aL ?_
 (case aP => exact k61_mkM _ _ _ (⟨t188, t189, t190⟩ : S61))
 (case aB => exact zbo)
 (case aF => exact (fun _ _ => trivial))
 (case aO => exact (ze HO_174001).out)
 (case aS => exact (zz HB))
 (case aL => have := LMc23.out; omega)
 intro v192 w30 ho hb hg hat
 rw [← Ny191.out] at ho
 have n_ : _ ∧ _ ∧ _ ∧ _ ∧ _ ∧ _ ∧ _ := ⟨Aside0.mk (Kd.R_over' (ze HO_5).out (Kd.R_typed (ze HO_174001).out) (by decide) hg), Aside0.mk (Kd.R_over' (ze HO_18).out (Kd.R_typed (ze HO_174001).out) (by decide) hg), Aside0.mk (blk_grown (g := gb165) (o := .cells #[.int .i8 0, .slice none 0 0, .slice none 0 0] 29 (0, 0)) (zh BK165).out hg (Kd.R_ne HO_174001.out BK165.out (by decide))), Aside0.mk (blk_grown (g := gb173) (o := .cells #[.int .i8 ((rd_T29 l0 0).f0), u174001, .slice none 0 0] 29 (0, 0)) (zh BK173).out hg (Kd.R_ne HO_174001.out BK173.out (by decide))), Aside0.mk (Kd.R_over' (ze HO185).out (Kd.R_typed (ze HO_174001).out) (by decide) hg), Aside0.mk (hb), Aside0.mk (ho)⟩
 clear HO_5 HO_18 BK165 BK173 HO185 HB HO_174001
 obtain ⟨HO_5, HO_18, BK165, BK173, HO185, HB, HO193⟩ := n_
 clear ho hb hg hat
 obtain ⟨Ao31, co31, eo31⟩ := Kd.R_slice HO193.out
 (first | subst eo31 | (injection eo31 with f1_ f2_ f3_; have f4_ := f1_.symm; have f5_ := f3_.symm; clear f1_ f2_ f3_; subst f4_; subst f5_))
 refine hK.out _ _ ⟨(blk_cell BK173.out 0).trans rfl, (blk_cell BK173.out 1).trans rfl, (blk_cell BK173.out 2).trans rfl, (zc HB hw186_0), (zc HB hw186_1), (zc HB hw186_2), (zc HB hw187_0), (zc HB hw187_1), (zc HB hw187_2)⟩ (fun hHeld => ?_)
 clear hK K
 refine norm_ (a' := ?_) ?_ ?_
 rotate_left
 ·show Act.put _ (some 48) _ = _
  exact zap
 refine zpu 17 (some 6) (zq 20 262143) HT_ ?_
 refine zpu 18 (some 49) (zq 20 524287) HT_ ?_
 refine last_ (i := 19) (N := none) (zq 20 1048575) rfl rfl (one_of HT_.out (by kernel_rfl)) (by decide) (fun K hK => ?_)
 have hs32 : w30.cell? ⟨gb173, 1, none⟩ = some (u174001) := (blk_cell BK173.out 1).trans rfl
 have hfs32 := blk_frozen BK173.out 1
 have hns32_0 := NB165_173.out
 have hms32_0 := NB173_165.out
 refine skip_ (w1 := ?_) (by rfl) rfl ?_ ?_
 rotate_left
 ·go_simp
  rfl
 refine hK.out _ _ ?_
 clear hK K
 refine done_ (done_of HT_.out (by kernel_rfl)) ?_
 try go_wp2_with (first | ((with_reducible refine gate_builtin (b := .append) (xs := #[.tmp 50, .tmp 53]) rfl ?_); at_builtin; refine Kd.R_append (Kd.int .i16) (w0 := w) w.heap.size rfl (.tmp 50) (.tmp 53) 27 54 (.int .i16 0) 2 rfl Try.underlying27 info54 rfl (by decide) (by omega) (.slice Ao28 x5_1.length co28) x5_1 (IntKind.i16.wrap ((x6_1.length : Int))) [.int .i16 (IntKind.i16.wrap ((x6_1.length : Int)))] (fun _ => True) (fun _ => False) rfl (by first | (go_simp; done) | (go_simp; rfl)) ?aP (fun _ hk => hk.elim) ?aF ?aO ?aB ?aS ?aL ?_; (case aP => exact rfl); (case aB => exact zbo); (case aF => exact (fun _ _ => trivial)); (case aO => exact (Kd.R_mono (zs HO_5 BK173).out (fun _ hk => trivial))); (case aS => exact (zz HB)); (case aL => have := LMc24.out; omega); intro v195 w33 ho hb hg hat; rw [← Ny194.out] at ho; have n_ : _ ∧ _ ∧ _ ∧ _ ∧ _ ∧ _ ∧ _ := ⟨Aside0.mk (Kd.R_over' (zs HO_18 BK173).out (Kd.R_typed (zs HO_5 BK173).out) (by decide) hg), Aside0.mk (blk_grown (g := gb165) (o := .cells #[.int .i8 0, .slice none 0 0, .slice none 0 0] 29 (0, 0)) (zf BK165 NB165_173).out hg (Kd.R_ne HO_5.out BK165.out (by decide))), Aside0.mk (blk_grown (g := gb173) (o := .cells #[.int .i8 ((rd_T29 l0 0).f0), .slice Ao31 y191.length co31, .slice none 0 0] 29 (0, 0)) (zp BK173) hg (Kd.R_ne HO_5.out BK173.out (by decide))), Aside0.mk (Kd.R_over' (zs HO185 BK173).out (Kd.R_typed (zs HO_5 BK173).out) (by decide) hg), Aside0.mk (Kd.R_over' (zs HO193 BK173).out (Kd.R_typed (zs HO_5 BK173).out) (by decide) hg), Aside0.mk (hb), Aside0.mk (ho)⟩; clear HO_18 BK165 BK173 HO185 HO193 HB HO_5; obtain ⟨HO_18, BK165, BK173, HO185, HO193, HB, HO196⟩ := n_; clear ho hb hg hat))
 go_roundg k1
 case measure => have := HK1.out; omega
 case rel => exact ⟨(y194), (y183), (wrap64 (x20_1 + 1)), (y191), (.slice Ao31 y191.length co31), zi, H', ⟨by have := HK1.out; omega⟩, ze HO196, ze HO185, ⟨by (with_reducible repeat (first | apply Kd.R_alloc | apply Kd.R_drewN | apply Kd.R_drew)); exact Kd.R_mono HO_18.out (fun _ hk => hk.2)⟩, ze HO193, zh BK165, zh BK173, zba⟩
-- NOT PRINTED: function 60 (impl_Node_1)

-- NOT PRINTED: function 54 (impl_Node)

end Go.Proofs.Ytkflenibdijnaaa.PFnExactAdderOf
