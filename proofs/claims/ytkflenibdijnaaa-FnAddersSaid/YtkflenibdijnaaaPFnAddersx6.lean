-- WRITTEN by xprint.py, a program of this session's. Not trusted: Lean checks it.
-- packed by pack.py
import Derived.Test.YtkflenibdijnaaaPFnAddersx0
import Derived.Test.YtkflenibdijnaaaPFnAddersx4
import Derived.Test.YtkflenibdijnaaaPFnAddersx5
import Derived.Test.YtkflenibdijnaaaTFnAddersa
namespace Go.Proofs.Ytkflenibdijnaaa.PFnAdders
open Go.RowKit Go.Proofs.YtkflenibdijnaaaW.PrintWords Go.Proofs.YtkflenibdijnaaaW.PrintLast Go.Proofs.YtkflenibdijnaaaW.PrintMore Go.Proofs.YtkflenibdijnaaaX
attribute [local go_sem] max2_int min2_int max_two min_two max_three min_three max_four min_four   -- for this text's walks alone
set_option maxHeartbeats 8000000
set_option maxRecDepth 100000
set_option linter.unusedVariables false
set_option linter.unusedSimpArgs false

def impl_Network_merged.l0 : Nat → List (S29) → List Int → List Int → List Int → Int → Int → Int → List (S61) → Option (Int × (List (S61)) × List Int × List Int)
  | 0, _, _, _, _, _, _, _, _ => none
  | k + 1, x0, x5, x6, x18, x19, x20, x189000, x189001 => if x20 < x19 then (if 0 ≤ x20 then (if x20 < (x18.length : Int) then ((slices_Index_uint64_uint64.f k x6 (rd x18 x20)).bind fun t197 => (if t197 < 0 then (if x6.length < 17592186044416 then (if 0 < (x0.length : Int) then (if x20 < (((rd_T29 x0 0).f1).length : Int) then ((impl_Node_renamed.f ((rd_T61 ((rd_T29 x0 0).f1) x20).f0) ((rd_T61 ((rd_T29 x0 0).f1) x20).f1) ((rd_T61 ((rd_T29 x0 0).f1) x20).f2) x5).bind fun bt203 => (if x189001.length < 23456248059221 then (if x5.length < 70368744177664 then (impl_Network_merged.l0 k x0 (x5 ++ [IntKind.i16.wrap ((x6.length : Int))]) (x6 ++ [rd x18 x20]) x18 x19 (wrap64 (x20 + 1)) x189000 (x189001 ++ [(⟨bt203.1, bt203.2.1, bt203.2.2⟩ : S61)])) else (none)) else (none))) else (none)) else (none)) else (none)) else (if x5.length < 70368744177664 then (impl_Network_merged.l0 k x0 (x5 ++ [IntKind.i16.wrap (t197)]) x6 x18 x19 (wrap64 (x20 + 1)) x189000 x189001) else (none)))) else (none)) else (none)) else (if 0 < (x0.length : Int) then ((impl_renamedAll.f k ((rd_T29 x0 0).f2) x5).bind fun t193 => (some (x189000, x189001, t193, x5))) else (none))
def impl_Network_merged.f (k : Nat) (l0 : List (S29)) : Option (Int × (List (S61)) × List Int × List Int) := if 0 < (l0.length : Int) then ((impl_Network_tables.f k l0).bind fun t189 => (impl_Network_merged.l0 k l0 (([] : List Int)) (([] : List Int)) t189 (t189.length : Int) 0 ((rd_T29 l0 0).f0) ([] : List (S61)))) else (none)
theorem impl_Network_merged.mono_l : ∀ k, (∀ y0 y1 y2 y3 y4 y5 y6 y7, LeO (impl_Network_merged.l0 k y0 y1 y2 y3 y4 y5 y6 y7) (impl_Network_merged.l0 (k + 1) y0 y1 y2 y3 y4 y5 y6 y7))
  | 0 => fun _ _ _ _ _ _ _ _ r h => by simp [impl_Network_merged.l0] at h
  | k + 1 => by
    have ih0 := impl_Network_merged.mono_l k
    · intro y0 y1 y2 y3 y4 y5 y6 y7
      unfold impl_Network_merged.l0
      repeat' first | (with_reducible first | apply ih0 | apply impl_Network_tables.mono | apply impl_renamedAll.mono | apply slices_Index_uint64_uint64.mono | exact LeO.refl _ | exact LeO.none _ | refine LeO.ite ?_ ?_ | refine LeO.bind ?_ (fun _ => ?_)) | apply ih0 | apply impl_Network_tables.mono | apply impl_renamedAll.mono | apply slices_Index_uint64_uint64.mono | exact LeO.none _ | refine LeO.ite ?_ ?_ | refine LeO.bind ?_ (fun _ => ?_)
theorem impl_Network_merged.mono : ∀ a0 k, LeO (impl_Network_merged.f k a0) (impl_Network_merged.f (k + 1) a0) := by
 intro a0 k
 have ih0 := impl_Network_merged.mono_l k
 unfold impl_Network_merged.f
 repeat' first | (with_reducible first | apply ih0 | apply impl_Network_tables.mono | apply impl_renamedAll.mono | apply slices_Index_uint64_uint64.mono | exact LeO.refl _ | exact LeO.none _ | refine LeO.ite ?_ ?_ | refine LeO.bind ?_ (fun _ => ?_)) | apply ih0 | apply impl_Network_tables.mono | apply impl_renamedAll.mono | apply slices_Index_uint64_uint64.mono | exact LeO.none _ | refine LeO.ite ?_ ?_ | refine LeO.bind ?_ (fun _ => ?_)
def impl_Network_merged.T8 : Bool × List (List Nat × List Nat) := (true, [([], []), ([], []), ([1], [1]), ([0, 2], [0, 2]), ([], []), ([4], [4]), ([], []), ([6], [6]), ([7], [7]), ([8], [8]), ([], []), ([9, 10], [9, 10]), ([11], [11]), ([], []), ([12, 13, 3], [12, 13]), ([14], [14]), ([5, 15, 14], [5, 15]), ([3, 16, 0, 1, 2, 3], [0, 3]), ([0, 1, 2, 3, 4, 5, 6, 7, 8, 9, 10, 11, 12, 13, 14, 15, 16, 17], []), ([18, 16, 17, 0, 1, 2, 3, 4, 5, 6, 7, 8, 9, 10, 11, 12, 13, 14, 15, 16, 17], [16, 18])])
def impl_Network_merged.B8 : List Nat := [0, 0, 2, 7, 0, 16, 0, 64, 192, 448, 0, 1984, 4032, 0, 16335, 32719, 65535, 131071, 262143, 524287]
theorem impl_Network_merged.tab8 : rtab .any (opsOf Try.f42 8) = impl_Network_merged.T8 := by kernel_rfl
theorem impl_Network_merged.bits8 : waitsOk impl_Network_merged.T8.2 impl_Network_merged.B8 = true := by kernel_rfl
theorem impl_Network_merged.calls (k : Nat) (adp0 : Addr) (l0 : List (S29)) (r1 : Int) (r2 : List (S61)) (r3 : List Int) (r4 : List Int) (w : World) (hr0 : Kd.C k29 w (some adp0) l0.length l0) (h : impl_Network_merged.f k l0 = some (r1, r2, r3, r4)) :
    Calls Try.prog 42 #[.pointer (some adp0)] w fun e w' => ∃ v1_ v2_ v3_ : Value, e = .returned (.tuple #[.agg #[.int .i8 r1, v1_, v2_], v3_]) ∧ Kd.R k61 61 w' w.heap.size (fun _ => True) v1_ r2 ∧ Kd.R (Kd.int .i16) 54 w' w.heap.size (fun k_ => some k_ ≠ (v3_ : Value).ownBlock) v2_ r3 ∧ Kd.R (Kd.int .i16) 54 w' w.heap.size (fun k_ => some k_ ≠ (v2_ : Value).ownBlock) v3_ r4 ∧ Below w.heap.size w w' := by
 have hu29 := Try.underlying29
 have hu61 := Try.underlying61
 have HR0 := Aside0.mk hr0
 clear hr0
 have HB := Aside0.mk (Below.refl w.heap.size w)
 have H : (if 0 < (l0.length : Int) then ((impl_Network_tables.f k l0).bind fun t189 => (impl_Network_merged.l0 k l0 (([] : List Int)) (([] : List Int)) t189 (t189.length : Int) 0 ((rd_T29 l0 0).f0) ([] : List (S61)))) else (none)) = some (r1, r2, r3, r4) := h
 clear h
 by_cases c2 : 0 < (l0.length : Int)
 rotate_left
 ·rw [if_neg c2] at H
  exact absurd H (by simp)
 rw [if_pos c2] at H
 have c2b0 : decide (0 < (l0.length : Int)) = true := decide_eq_true c2
 have c2b1 : decide (0 < l0.length) = true := decide_eq_true (by omega)
 clear c2
 obtain ⟨y182, hy182⟩ : ∃ y_ : List Int, y_ = (([] : List Int)) := ⟨_, rfl⟩
 replace H : ((impl_Network_tables.f k l0).bind fun t189 => (impl_Network_merged.l0 k l0 y182 (([] : List Int)) t189 (t189.length : Int) 0 ((rd_T29 l0 0).f0) ([] : List (S61)))) = some (r1, r2, r3, r4) := by first | (rw [hy182]; with_reducible exact H) | (have H2_ := (Option.bind_some _ _).symm.trans H; rw [hy182]; with_reducible exact H2_) | (have H2_ := (Option.bind_some _ _).symm.trans H; with_reducible exact H2_) | with_reducible exact H | (rw [hy182]; exact H) | exact H
 have Ny182 := Aside0.mk hy182
 clear hy182
 obtain ⟨y185, hy185⟩ : ∃ y_ : List Int, y_ = (([] : List Int)) := ⟨_, rfl⟩
 replace H : ((impl_Network_tables.f k l0).bind fun t189 => (impl_Network_merged.l0 k l0 y182 y185 t189 (t189.length : Int) 0 ((rd_T29 l0 0).f0) ([] : List (S61)))) = some (r1, r2, r3, r4) := by first | (rw [hy185]; with_reducible exact H) | (have H2_ := (Option.bind_some _ _).symm.trans H; rw [hy185]; with_reducible exact H2_) | (have H2_ := (Option.bind_some _ _).symm.trans H; with_reducible exact H2_) | with_reducible exact H | (rw [hy185]; exact H) | exact H
 have Ny185 := Aside0.mk hy185
 clear hy185
 replace H := zob H
 obtain ⟨t189, A30, H⟩ := H
 replace H : (impl_Network_merged.l0 k l0 y182 y185 t189 (t189.length : Int) 0 ((rd_T29 l0 0).f0) ([] : List (S61))) = some (r1, r2, r3, r4) := H
 have A3 := Aside0.mk A30
 clear A30
 have H' := Aside0.mk H
 clear H
 go_enter Try.func42, Try.ntmps42
 go_wp2_with (first | ((with_reducible refine gate_dst (N := 2) rfl ?_); refine zbx 2 #[.int .i8 0, .slice none 0 0, .slice none 0 0] 29 ?_; intro gb180 hg w4 hbox hb; have n_ : _ ∧ _ ∧ _ ∧ _ := ⟨zb HB hb, Aside0.mk (hbox), zg HB hg, zg HB hg⟩; clear HB; obtain ⟨HB, BK180, GW180, GE180⟩ := n_; clear hb hbox hg; have p181 : 0 ≤ (0 : Int) := (by omega); have q181 : 0 < (l0.length : Int) := of_decide_eq_true zA; obtain ⟨ad181, A181_1, c181_1, A181_2, c181_2, e181, hx181_0, hx181_1, hx181_2, hl181_1, hi181_1, hl181_2, hi181_2⟩ := at_T29 HR0.out 0 p181 q181; obtain rfl : adp0 = ad181 := (by injection e181); have qi181 : (0 < l0.length) = True := eq_true (by omega); (try simp only [z00, Nat.zero_mul, Addr.add_zero'] at hx181_0 hx181_1 hx181_2); replace hx181_0 := zc HB hx181_0; replace hx181_1 := zc HB hx181_1; replace hx181_2 := zc HB hx181_2; have HR181_1 := Aside0.mk hi181_1; have HC181_1 := Aside0.mk hl181_1; clear hi181_1 hl181_1; have HR181_2 := Aside0.mk hi181_2; have HC181_2 := Aside0.mk hl181_2; clear hi181_2 hl181_2; replace p181 := eq_true p181; replace q181 := eq_true q181) | ((with_reducible refine gate_dst (N := 15) rfl ?_); refine Kd.R_lit (Kd.int .i16) _ 54 ?hg (N := 15) ?hd (xs := ([] : List Int)) (inner := []) (ok := fun _ => True) (okp := fun _ => True) ?hr ?hp (fun _ hk => hk) trivial (Below.refl _ _) (Nat.le_refl _) (by simp) ?_; (case hd => rfl); (case hg => rfl); (case hr => exact zgs); (case hp => exact (Reps.none _ _)); intro v183 w5 ho6 hb hg_ hnew_; clear hg_ hnew_; (first | rw [← Ny182.out] at ho6 | (simp only [Int.reduceToNat] at ho6; rw [← Ny182.out] at ho6)); have n_ : _ ∧ _ ∧ _ := ⟨Aside0.mk (Kd.R_lower ho6 (zz HB)), zk BK180 hb, zbs hb⟩; clear BK180 HB; obtain ⟨HO184, BK180, HB⟩ := n_; clear hb ho6) | ((with_reducible refine gate_dst (N := 16) rfl ?_); refine Kd.R_lit (Kd.int .u64) _ 66 ?hg (N := 16) ?hd (xs := ([] : List Int)) (inner := []) (ok := fun _ => True) (okp := fun _ => True) ?hr ?hp (fun _ hk => hk) trivial (Below.refl _ _) (Nat.le_refl _) (by simp) ?_; (case hd => rfl); (case hg => rfl); (case hr => exact zgs); (case hp => exact (Reps.none _ _)); intro v186 w7 ho8 hb hg_ hnew_; clear hg_ hnew_; (first | rw [← Ny185.out] at ho8 | (simp only [Int.reduceToNat] at ho8; rw [← Ny185.out] at ho8)); have n_ : _ ∧ _ ∧ _ ∧ _ := ⟨zr HO184 hb, Aside0.mk (Kd.R_lower ho8 (zz HB)), zk BK180 hb, zbs hb⟩; clear HO184 BK180 HB; obtain ⟨HO184, HO187, BK180, HB⟩ := n_; clear hb ho8) | ((with_reducible refine gate_dst (N := 4) rfl ?_); refine zbx 4 #[.int .i8 0, .slice none 0 0, .slice none 0 0] 29 ?_; intro gb188 hg w9 hbox hb; have n_ : _ ∧ _ ∧ _ ∧ _ ∧ _ ∧ _ ∧ _ ∧ _ ∧ _ := ⟨zr HO184 hb, zr HO187 hb, zk BK180 hb, zbs hb, Aside0.mk (hbox), zg HB hg, zg HB hg, zn1 BK180 hg, zn2 BK180 hg⟩; clear HO184 HO187 BK180 HB; obtain ⟨HO184, HO187, BK180, HB, BK188, GW188, GE188, NB180_188, NB188_180⟩ := n_; clear hb hbox hg; have hnb10 := NB188_180.out; have hnc10 := NB180_188.out; obtain ⟨z11_0, z11_1, z11_2, y11_0, y11_1, y11_2⟩ := zB3 BK188) | ((with_reducible refine gate_callee (f := 49) rfl ?_); refine goesL_ (some 18) rfl rfl Try.func49 (by kernel_rfl) rfl #[.pointer (some adp0)] rfl zm ?_; (with_reducible refine (impl_Network_tables.calls k _ l0 t189 _ ?side1 A3.out).mono ?_); (case side1 => exact Kd.C_below HR0.out zbo); rintro e w12 ⟨v190, rfl, ho0, hb⟩; refine ⟨_, rfl, ?_⟩; have n_ : _ ∧ _ ∧ _ ∧ _ ∧ _ ∧ _ := ⟨zsb HO184 BK188 hb, Aside0.mk (Kd.R_elder' (zs HO187 BK188).out (Kd.R_base ho0) hb), Aside0.mk (Kd.R_lower (Kd.R_new' ho0 (Kd.R_lt (zs HO187 BK188).out)) (zz HB)), zfb BK180 NB180_188 hb, Aside0.mk (blk_below (g := gb188) (o := .cells #[.int .i8 ((rd_T29 l0 0).f0), .slice none 0 0, .slice none 0 0] 29 (0, 0)) (zp BK188) hb), zbs hb⟩; clear HO184 HO187 BK180 BK188 HB; obtain ⟨HO184, HO187, HO191, BK180, BK188, HB⟩ := n_; (try clear hb); (try clear hb2); (try clear hk); (try clear hi); (try clear ho0); obtain ⟨Ao13, co13, eo13⟩ := Kd.R_slice HO191.out; subst eo13))
 go_loopg [5, 6, 20] k (fun kq v5 v6 v20 w' => ∃ (x5_1 : List Int) (x6_1 : List Int) (x20_1 : Int) (x189001_1 : List (S61)) (u189001 : Value), v20 = .int .i64 x20_1 ∧ Aside0 (impl_Network_merged.l0 kq l0 x5_1 x6_1 t189 (t189.length : Int) x20_1 ((rd_T29 l0 0).f0) x189001_1 = some (r1, r2, r3, r4)) ∧ Aside0 (kq ≤ k) ∧ Aside0 (Kd.R (Kd.int .i16) 54 w' w.heap.size (fun _ => True) v5 x5_1) ∧ Aside0 (Kd.R (Kd.int .u64) 66 w' w.heap.size (fun k_ => some k_ ≠ ((.slice Ao13 t189.length co13) : Value).ownBlock) v6 x6_1) ∧ Aside0 (Kd.R (Kd.int .u64) 66 w' w.heap.size (fun k_ => some k_ ≠ (v6 : Value).ownBlock) (.slice Ao13 t189.length co13) t189) ∧ Aside0 (Kd.R k61 61 w' w.heap.size (fun _ => True) u189001 x189001_1) ∧ Aside0 (w'.heap[gb180]? = some (.cells #[.int .i8 0, (.slice none 0 0), (.slice none 0 0)] 29 (0, 0))) ∧ Aside0 (w'.heap[gb188]? = some (.cells #[.int .i8 ((rd_T29 l0 0).f0), u189001, (.slice none 0 0)] 29 (0, 0))) ∧ Aside0 (Below w.heap.size w w'))
 case atStart => exact ⟨(y182), (y185), (0), (([] : List (S61))), (.slice none 0 0), zi, H', ⟨Nat.le_refl _⟩, ze HO184, ⟨by (with_reducible repeat (first | apply Kd.R_alloc | apply Kd.R_drewN | apply Kd.R_drew)); exact Kd.R_mono HO187.out (fun _ hk => hk.2)⟩, ⟨by (with_reducible repeat (first | apply Kd.R_alloc | apply Kd.R_drewN | apply Kd.R_drew)); exact Kd.R_mono HO191.out (fun _ hk => hk.2)⟩, ⟨by first | exact Kd.R_nil _ _ _ _ _ | exact Kd.N_nil _ _ _ _ _ | exact Kd.V_nil _ _ _ _ _ | exact Kd.Q_nil _ _ _ _ _ | exact Kd.S_nil _ _ _ _ _⟩, zh BK180, zh BK188, zba⟩
 clear H'
 try clear c1
 try clear p1
 try clear q1
 try clear hx1
 try clear qi1
 try clear c2
 try clear c2b0
 try clear c2b1
 try clear p2
 try clear c4
 try clear c10
 try clear z11_0 z11_1 z11_2 y11_0 y11_1 y11_2
 try clear hx181_0
 try clear hx181_1
 try clear hx181_2
 try clear p181
 try clear q181
 obtain ⟨x5_1, x6_1, x20_1, x189001_1, u189001, rfl, HA, HK1, HO_5, HO_6, HO_18, HO_189001, BK180, BK188, HB⟩ := hrel
 cases gk with
 | zero => exact absurd HA.out (by simp [impl_Network_merged.l0])
 | succ k1 => ?_
 have H := HA.out
 clear HA
 simp only [impl_Network_merged.l0] at H
 by_cases c14 : x20_1 < (t189.length : Int)
 rotate_left
 ·rw [if_neg c14] at H
  have c14b0 : decide (x20_1 < (t189.length : Int)) = false := decide_eq_false c14
  clear c14
  by_cases c37 : 0 < (l0.length : Int)
  rotate_left
  ·rw [if_neg c37] at H
   exact absurd H (by simp)
  rw [if_pos c37] at H
  have c37b0 : decide (0 < (l0.length : Int)) = true := decide_eq_true c37
  have c37b1 : decide (0 < l0.length) = true := decide_eq_true (by omega)
  clear c37
  replace H := zob H
  obtain ⟨t193, A380, H⟩ := H
  replace H : (some (((rd_T29 l0 0).f0), x189001_1, t193, x5_1)) = some (r1, r2, r3, r4) := H
  have A38 := Aside0.mk A380
  clear A380
  simp only [Option.some.injEq, Prod.mk.injEq] at H
  obtain ⟨rfl, rfl, rfl, rfl⟩ := H
  have p192 : 0 ≤ (0 : Int) := (by omega)
  have q192 : 0 < (l0.length : Int) := of_decide_eq_true zA
  obtain ⟨ad192, A192_1, c192_1, A192_2, c192_2, e192, hx192_0, hx192_1, hx192_2, hl192_1, hi192_1, hl192_2, hi192_2⟩ := at_T29 HR0.out 0 p192 q192
  obtain rfl : adp0 = ad192 := (by injection e192)
  have qi192 : (0 < l0.length) = True := eq_true (by omega)
  try simp only [z00, Nat.zero_mul, Addr.add_zero'] at hx192_0 hx192_1 hx192_2
  replace hx192_0 := zc HB hx192_0
  replace hx192_1 := zc HB hx192_1
  replace hx192_2 := zc HB hx192_2
  have HR192_1 := Aside0.mk hi192_1
  have HC192_1 := Aside0.mk hl192_1
  clear hi192_1 hl192_1
  have HR192_2 := Aside0.mk hi192_2
  have HC192_2 := Aside0.mk hl192_2
  clear hi192_2 hl192_2
  replace p192 := eq_true p192
  replace q192 := eq_true q192
  obtain ⟨Ao39, co39, eo39⟩ := Kd.R_slice HO_5.out
  subst eo39
  go_wp2_with (first | ((with_reducible refine gate_callee (f := 53) rfl ?_); refine goesL_ (some 61) rfl rfl Try.func53 (by kernel_rfl) rfl #[.slice A192_2 ((rd_T29 l0 0).f2).length c192_2, .slice Ao39 x5_1.length co39] rfl zm ?_; (with_reducible refine (impl_renamedAll.calls k1 _ _ ((rd_T29 l0 0).f2) _ _ x5_1 t193 _ ?side1 ?side2 ?side3 ?side4 A38.out).mono ?_); (case side1 => exact zcc HB HR192_2.out); (case side2 => exact HC192_2.out); (case side3 => exact zrc HO_5); (case side4 => exact (Kd.R_reads' HO_5.out).2.1); rintro e w40 ⟨v194, rfl, ho0, hb⟩; refine ⟨_, rfl, ?_⟩; have n_ : _ ∧ _ ∧ _ ∧ _ ∧ _ ∧ _ ∧ _ ∧ _ := ⟨Aside0.mk (Kd.R_elder' (ze HO_5).out (Kd.R_base ho0) hb), zr HO_6 hb, zr HO_18 hb, zr HO_189001 hb, Aside0.mk (Kd.R_lower (Kd.R_new' ho0 (Kd.R_lt (ze HO_5).out)) (zz HB)), zk BK180 hb, zk BK188 hb, zbs hb⟩; clear HO_5 HO_6 HO_18 HO_189001 BK180 BK188 HB; obtain ⟨HO_5, HO_6, HO_18, HO_189001, HO195, BK180, BK188, HB⟩ := n_; (try clear hb); (try clear hb2); (try clear hk); (try clear hi); (try clear ho0); obtain ⟨Ao41, co41, eo41⟩ := Kd.R_slice HO195.out; subst eo41; have hnb42 := NB188_180.out; have hnc42 := NB180_188.out; obtain ⟨z43_0, z43_1, z43_2, y43_0, y43_1, y43_2⟩ := zB3 BK188; obtain ⟨z44_0, z44_1, z44_2, y44_0, y44_1, y44_2⟩ := zB3 BK180; obtain ⟨Ao45, co45, eo45⟩ := Kd.R_slice HO_189001.out; subst eo45))
  refine bodyPost_ret (results_ct rfl _ _ gb180 29 #[.int .i8 ((rd_T29 l0 0).f0), .slice Ao45 x189001_1.length co45, .slice Ao41 t193.length co41] (0, 0) _ rfl (by (with_reducible repeat (first | refine blk_drewN ?_ _ | refine blk_drew ?_ | refine blk_alloc ?_ _)); refine blk_put (cs := #[.int .i8 ((rd_T29 l0 0).f0), .slice Ao45 x189001_1.length co45, .slice none 0 0]) ?_ 2 _ rfl; (with_reducible repeat (first | refine blk_drewN ?_ _ | refine blk_drew ?_ | refine blk_alloc ?_ _)); refine blk_put (cs := #[.int .i8 ((rd_T29 l0 0).f0), .slice none 0 0, .slice none 0 0]) ?_ 1 _ rfl; (with_reducible repeat (first | refine blk_drewN ?_ _ | refine blk_drew ?_ | refine blk_alloc ?_ _)); refine blk_put (cs := #[.int .i8 0, .slice none 0 0, .slice none 0 0]) ?_ 0 _ rfl; (with_reducible repeat (first | refine blk_drewN ?_ _ | refine blk_drew ?_ | refine blk_alloc ?_ _)); refine blk_far ?_ NB180_188.out _; (with_reducible repeat (first | refine blk_drewN ?_ _ | refine blk_drew ?_ | refine blk_alloc ?_ _)); exact BK180.out) Try.underlying29 rfl (by kernel_rfl)) rfl ?_
  exact ⟨_, _, _, zv, by (with_reducible repeat (first | apply Kd.R_alloc | apply Kd.R_drewN | apply Kd.R_drew)); exact Kd.R_mono (Kd.R_far (p := ⟨gb180, 2, none⟩) (Kd.R_far (p := ⟨gb180, 1, none⟩) (Kd.R_far (p := ⟨gb180, 0, none⟩) (Kd.R_far (p := ⟨gb188, 2, none⟩) (Kd.R_types (Kd.R_types HO_189001.out BK188.out (by decide)) BK180.out (by decide)) (fun _ hk => hk.1.2) (.slice Ao41 t193.length co41)) (fun _ hk => hk.2) (.int .i8 ((rd_T29 l0 0).f0))) (fun _ hk => hk.2) (.slice Ao45 x189001_1.length co45)) (fun _ hk => hk.2) (.slice Ao41 t193.length co41)) (fun _ hk => trivial), by (with_reducible repeat (first | apply Kd.R_alloc | apply Kd.R_drewN | apply Kd.R_drew)); exact Kd.R_mono (Kd.R_far (p := ⟨gb180, 2, none⟩) (Kd.R_far (p := ⟨gb180, 1, none⟩) (Kd.R_far (p := ⟨gb180, 0, none⟩) (Kd.R_far (p := ⟨gb188, 2, none⟩) (Kd.R_types (Kd.R_types HO195.out BK188.out (by decide)) BK180.out (by decide)) (fun _ hk => hk.1.2) (.slice Ao41 t193.length co41)) (fun _ hk => hk.2) (.int .i8 ((rd_T29 l0 0).f0))) (fun _ hk => hk.2) (.slice Ao45 x189001_1.length co45)) (fun _ hk => hk.2) (.slice Ao41 t193.length co41)) (fun _ hk => hk.1.1.2), by (with_reducible repeat (first | apply Kd.R_alloc | apply Kd.R_drewN | apply Kd.R_drew)); exact Kd.R_mono (Kd.R_far (p := ⟨gb180, 2, none⟩) (Kd.R_far (p := ⟨gb180, 1, none⟩) (Kd.R_far (p := ⟨gb180, 0, none⟩) (Kd.R_far (p := ⟨gb188, 2, none⟩) (Kd.R_types (Kd.R_types HO_5.out BK188.out (by decide)) BK180.out (by decide)) (fun _ hk => hk.1.2) (.slice Ao41 t193.length co41)) (fun _ hk => hk.2) (.int .i8 ((rd_T29 l0 0).f0))) (fun _ hk => hk.2) (.slice Ao45 x189001_1.length co45)) (fun _ hk => hk.2) (.slice Ao41 t193.length co41)) (fun _ hk => hk.1.1.2), zbo⟩
 rw [if_pos c14] at H
 have c14b0 : decide (x20_1 < (t189.length : Int)) = true := decide_eq_true c14
 clear c14
 by_cases c15 : 0 ≤ x20_1
 rotate_left
 ·rw [if_neg c15] at H
  exact absurd H (by simp)
 rw [if_pos c15] at H
 have c15b0 : decide (0 ≤ x20_1) = true := decide_eq_true c15
 clear c15
 by_cases c16 : x20_1 < (t189.length : Int)
 rotate_left
 ·rw [if_neg c16] at H
  exact absurd H (by simp)
 rw [if_pos c16] at H
 have c16b0 : decide (x20_1 < (t189.length : Int)) = true := decide_eq_true c16
 clear c16
 replace H := zob H
 obtain ⟨t197, A170, H⟩ := H
 replace H : (if t197 < 0 then (if x6_1.length < 17592186044416 then (if 0 < (l0.length : Int) then (if x20_1 < (((rd_T29 l0 0).f1).length : Int) then ((impl_Node_renamed.f ((rd_T61 ((rd_T29 l0 0).f1) x20_1).f0) ((rd_T61 ((rd_T29 l0 0).f1) x20_1).f1) ((rd_T61 ((rd_T29 l0 0).f1) x20_1).f2) x5_1).bind fun bt203 => (if x189001_1.length < 23456248059221 then (if x5_1.length < 70368744177664 then (impl_Network_merged.l0 k1 l0 (x5_1 ++ [IntKind.i16.wrap ((x6_1.length : Int))]) (x6_1 ++ [rd t189 x20_1]) t189 (t189.length : Int) (wrap64 (x20_1 + 1)) ((rd_T29 l0 0).f0) (x189001_1 ++ [(⟨bt203.1, bt203.2.1, bt203.2.2⟩ : S61)])) else (none)) else (none))) else (none)) else (none)) else (none)) else (if x5_1.length < 70368744177664 then (impl_Network_merged.l0 k1 l0 (x5_1 ++ [IntKind.i16.wrap (t197)]) x6_1 t189 (t189.length : Int) (wrap64 (x20_1 + 1)) ((rd_T29 l0 0).f0) x189001_1) else (none))) = some (r1, r2, r3, r4) := H
 have A17 := Aside0.mk A170
 clear A170
 by_cases c18 : t197 < 0
 rotate_left
 ·rw [if_neg c18] at H
  have c18b0 : decide (t197 < 0) = false := decide_eq_false c18
  clear c18
  by_cases c34 : x5_1.length < 70368744177664
  rotate_left
  ·rw [if_neg c34] at H
   exact absurd H (by simp)
  rw [if_pos c34] at H
  have LMc34 := Aside0.mk c34
  clear c34
  obtain ⟨y212, hy212⟩ : ∃ y_ : List Int, y_ = (x5_1 ++ [IntKind.i16.wrap (t197)]) := ⟨_, rfl⟩
  replace H : (impl_Network_merged.l0 k1 l0 y212 x6_1 t189 (t189.length : Int) (wrap64 (x20_1 + 1)) ((rd_T29 l0 0).f0) x189001_1) = some (r1, r2, r3, r4) := by first | (rw [hy212]; with_reducible exact H) | (have H2_ := (Option.bind_some _ _).symm.trans H; rw [hy212]; with_reducible exact H2_) | (have H2_ := (Option.bind_some _ _).symm.trans H; with_reducible exact H2_) | with_reducible exact H | (rw [hy212]; exact H) | exact H
  have Ny212 := Aside0.mk hy212
  clear hy212
  have H' := Aside0.mk H
  clear H
  have p196 : 0 ≤ (x20_1 : Int) := of_decide_eq_true zA
  have q196 : x20_1 < (t189.length : Int) := of_decide_eq_true zA
  obtain ⟨ad196, e196, hx196_0⟩ := Kd.at_int (Kd.R_reads' HO_18.out).2.2 x20_1 p196 q196
  cases e196
  replace p196 := eq_true p196
  replace q196 := eq_true q196
  obtain ⟨Ao35, co35, eo35⟩ := Kd.R_slice HO_6.out
  subst eo35
  go_wp2_with (first | ((with_reducible refine gate_callee (f := 51) rfl ?_); refine goesL_ (some 27) rfl rfl Try.func51 (by kernel_rfl) rfl #[.slice Ao35 x6_1.length co35, .int .u64 (rd t189 x20_1)] rfl zm ?_; (with_reducible refine (slices_Index_uint64_uint64.calls k1 _ _ x6_1 (rd t189 x20_1) t197 _ ?side1 ?side2 A17.out).mono ?_); (case side1 => exact zrc HO_6); (case side2 => exact (Kd.R_reads' HO_6.out).2.1); rintro e w' ⟨rfl, ⟨nd, rfl⟩⟩; refine ⟨_, rfl, ?_⟩) | ((with_reducible refine gate_builtin (b := .append) (xs := #[.tmp 50, .tmp 53]) rfl ?_); at_builtin; refine Kd.R_append (Kd.int .i16) (w0 := w) w.heap.size rfl (.tmp 50) (.tmp 53) 27 54 (.int .i16 0) 2 rfl Try.underlying27 info54 rfl (by decide) (by omega) u5 x5_1 (IntKind.i16.wrap (t197)) [.int .i16 (IntKind.i16.wrap (t197))] (fun _ => True) (fun _ => False) rfl rfl ?aP (fun _ hk => hk.elim) ?aF ?aO ?aB ?aS ?aL ?_; (case aP => exact rfl); (case aB => exact zbo); (case aF => exact (fun _ _ => trivial)); (case aO => exact (ze HO_5).out); (case aS => exact (zz HB)); (case aL => have := LMc34.out; omega); intro v213 w36 ho hb hg hat; rw [← Ny212.out] at ho; have n_ : _ ∧ _ ∧ _ ∧ _ ∧ _ ∧ _ ∧ _ := ⟨Aside0.mk (Kd.R_over' (ze HO_6).out (Kd.R_typed (ze HO_5).out) (by decide) hg), Aside0.mk (Kd.R_over' (ze HO_18).out (Kd.R_typed (ze HO_5).out) (by decide) hg), Aside0.mk (Kd.R_over' (ze HO_189001).out (Kd.R_typed (ze HO_5).out) (by decide) hg), Aside0.mk (blk_grown (g := gb180) (o := .cells #[.int .i8 0, .slice none 0 0, .slice none 0 0] 29 (0, 0)) (zh BK180).out hg (Kd.R_ne HO_5.out BK180.out (by decide))), Aside0.mk (blk_grown (g := gb188) (o := .cells #[.int .i8 ((rd_T29 l0 0).f0), u189001, .slice none 0 0] 29 (0, 0)) (zh BK188).out hg (Kd.R_ne HO_5.out BK188.out (by decide))), Aside0.mk (hb), Aside0.mk (ho)⟩; clear HO_6 HO_18 HO_189001 BK180 BK188 HB HO_5; obtain ⟨HO_6, HO_18, HO_189001, BK180, BK188, HB, HO214⟩ := n_; clear ho hb hg hat))
  go_roundg k1
  case measure => have := HK1.out; omega
  case rel => exact ⟨(y212), (x6_1), (wrap64 (x20_1 + 1)), (x189001_1), (u189001), zi, H', ⟨by have := HK1.out; omega⟩, ze HO214, ze HO_6, ze HO_18, ze HO_189001, zh BK180, zh BK188, zba⟩
 rw [if_pos c18] at H
 have c18b0 : decide (t197 < 0) = true := decide_eq_true c18
 clear c18
 by_cases c19 : x6_1.length < 17592186044416
 rotate_left
 ·rw [if_neg c19] at H
  exact absurd H (by simp)
 rw [if_pos c19] at H
 have LMc19 := Aside0.mk c19
 clear c19
 obtain ⟨y198, hy198⟩ : ∃ y_ : List Int, y_ = (x6_1 ++ [rd t189 x20_1]) := ⟨_, rfl⟩
 replace H : (if 0 < (l0.length : Int) then (if x20_1 < (((rd_T29 l0 0).f1).length : Int) then ((impl_Node_renamed.f ((rd_T61 ((rd_T29 l0 0).f1) x20_1).f0) ((rd_T61 ((rd_T29 l0 0).f1) x20_1).f1) ((rd_T61 ((rd_T29 l0 0).f1) x20_1).f2) x5_1).bind fun bt203 => (if x189001_1.length < 23456248059221 then (if x5_1.length < 70368744177664 then (impl_Network_merged.l0 k1 l0 (x5_1 ++ [IntKind.i16.wrap ((x6_1.length : Int))]) y198 t189 (t189.length : Int) (wrap64 (x20_1 + 1)) ((rd_T29 l0 0).f0) (x189001_1 ++ [(⟨bt203.1, bt203.2.1, bt203.2.2⟩ : S61)])) else (none)) else (none))) else (none)) else (none)) = some (r1, r2, r3, r4) := by first | (rw [hy198]; with_reducible exact H) | (have H2_ := (Option.bind_some _ _).symm.trans H; rw [hy198]; with_reducible exact H2_) | (have H2_ := (Option.bind_some _ _).symm.trans H; with_reducible exact H2_) | with_reducible exact H | (rw [hy198]; exact H) | exact H
 have Ny198 := Aside0.mk hy198
 clear hy198
 by_cases c20 : 0 < (l0.length : Int)
 rotate_left
 ·rw [if_neg c20] at H
  exact absurd H (by simp)
 rw [if_pos c20] at H
 have c20b0 : decide (0 < (l0.length : Int)) = true := decide_eq_true c20
 have c20b1 : decide (0 < l0.length) = true := decide_eq_true (by omega)
 clear c20
 by_cases c21 : x20_1 < (((rd_T29 l0 0).f1).length : Int)
 rotate_left
 ·rw [if_neg c21] at H
  exact absurd H (by simp)
 rw [if_pos c21] at H
 have c21b0 : decide (x20_1 < (((rd_T29 l0 0).f1).length : Int)) = true := decide_eq_true c21
 clear c21
 replace H := zob H
 obtain ⟨⟨t203, t204, t205⟩, A220, H⟩ := H
 replace H : (if x189001_1.length < 23456248059221 then (if x5_1.length < 70368744177664 then (impl_Network_merged.l0 k1 l0 (x5_1 ++ [IntKind.i16.wrap ((x6_1.length : Int))]) y198 t189 (t189.length : Int) (wrap64 (x20_1 + 1)) ((rd_T29 l0 0).f0) (x189001_1 ++ [(⟨t203, t204, t205⟩ : S61)])) else (none)) else (none)) = some (r1, r2, r3, r4) := H
 have A22 := Aside0.mk A220
 clear A220
 by_cases c23 : x189001_1.length < 23456248059221
 rotate_left
 ·rw [if_neg c23] at H
  exact absurd H (by simp)
 rw [if_pos c23] at H
 have LMc23 := Aside0.mk c23
 clear c23
 obtain ⟨y206, hy206⟩ : ∃ y_ : List (S61), y_ = (x189001_1 ++ [(⟨t203, t204, t205⟩ : S61)]) := ⟨_, rfl⟩
 replace H : (if x5_1.length < 70368744177664 then (impl_Network_merged.l0 k1 l0 (x5_1 ++ [IntKind.i16.wrap ((x6_1.length : Int))]) y198 t189 (t189.length : Int) (wrap64 (x20_1 + 1)) ((rd_T29 l0 0).f0) y206) else (none)) = some (r1, r2, r3, r4) := by first | (rw [hy206]; with_reducible exact H) | (have H2_ := (Option.bind_some _ _).symm.trans H; rw [hy206]; with_reducible exact H2_) | (have H2_ := (Option.bind_some _ _).symm.trans H; with_reducible exact H2_) | with_reducible exact H | (rw [hy206]; exact H) | exact H
 have Ny206 := Aside0.mk hy206
 clear hy206
 by_cases c24 : x5_1.length < 70368744177664
 rotate_left
 ·rw [if_neg c24] at H
  exact absurd H (by simp)
 rw [if_pos c24] at H
 have LMc24 := Aside0.mk c24
 clear c24
 obtain ⟨y209, hy209⟩ : ∃ y_ : List Int, y_ = (x5_1 ++ [IntKind.i16.wrap ((x6_1.length : Int))]) := ⟨_, rfl⟩
 replace H : (impl_Network_merged.l0 k1 l0 y209 y198 t189 (t189.length : Int) (wrap64 (x20_1 + 1)) ((rd_T29 l0 0).f0) y206) = some (r1, r2, r3, r4) := by first | (rw [hy209]; with_reducible exact H) | (have H2_ := (Option.bind_some _ _).symm.trans H; rw [hy209]; with_reducible exact H2_) | (have H2_ := (Option.bind_some _ _).symm.trans H; with_reducible exact H2_) | with_reducible exact H | (rw [hy209]; exact H) | exact H
 have Ny209 := Aside0.mk hy209
 clear hy209
 have H' := Aside0.mk H
 clear H
 have p196 : 0 ≤ (x20_1 : Int) := of_decide_eq_true zA
 have q196 : x20_1 < (t189.length : Int) := of_decide_eq_true zA
 obtain ⟨ad196, e196, hx196_0⟩ := Kd.at_int (Kd.R_reads' HO_18.out).2.2 x20_1 p196 q196
 cases e196
 replace p196 := eq_true p196
 replace q196 := eq_true q196
 obtain ⟨Ao25, co25, eo25⟩ := Kd.R_slice HO_6.out
 subst eo25
 try go_wp2_with (first | ((with_reducible refine gate_callee (f := 51) rfl ?_); refine goesL_ (some 27) rfl rfl Try.func51 (by kernel_rfl) rfl #[.slice Ao25 x6_1.length co25, .int .u64 (rd t189 x20_1)] rfl zm ?_; (with_reducible refine (slices_Index_uint64_uint64.calls k1 _ _ x6_1 (rd t189 x20_1) t197 _ ?side1 ?side2 A17.out).mono ?_); (case side1 => exact zrc HO_6); (case side2 => exact (Kd.R_reads' HO_6.out).2.1); rintro e w' ⟨rfl, ⟨nd, rfl⟩⟩; refine ⟨_, rfl, ?_⟩; (try (rw [drewN_self wr]; generalize hq_ : World.drewN wr _ = wr; have n0_ : Aside0 (Kd.R (Kd.int .u64) 66 wr w.heap.size (fun k_ => some k_ ≠ (.slice Ao25 x6_1.length co25 : Value).ownBlock) (.slice (some ad196) t189.length co13) t189) := ⟨by rw [← hq_]; exact (ze HO_18).out⟩; have n1_ : Aside0 (Kd.R k61 61 wr w.heap.size (fun _ => True) u189001 x189001_1) := ⟨by rw [← hq_]; exact (ze HO_189001).out⟩; have n2_ : Aside0 (Kd.R (Kd.int .i16) 54 wr w.heap.size (fun _ => True) u5 x5_1) := ⟨by rw [← hq_]; exact (ze HO_5).out⟩; have n3_ : Aside0 (Kd.R (Kd.int .u64) 66 wr w.heap.size (fun k_ => some k_ ≠ (.slice (some ad196) t189.length co13 : Value).ownBlock) (.slice Ao25 x6_1.length co25) x6_1) := ⟨by rw [← hq_]; exact (ze HO_6).out⟩; have n4_ : Aside0 (wr.heap[gb180]? = some (.cells #[.int .i8 0, .slice none 0 0, .slice none 0 0] 29 (0, 0))) := ⟨by rw [← hq_]; exact (zh BK180).out⟩; have n5_ : Aside0 (wr.heap[gb188]? = some (.cells #[.int .i8 ((rd_T29 l0 0).f0), u189001, .slice none 0 0] 29 (0, 0))) := ⟨by rw [← hq_]; exact (zh BK188).out⟩; have n6_ : Aside0 (Below w.heap.size w wr) := ⟨by rw [← hq_]; exact zbo⟩; clear HO_18 HO_189001 HO_5 HO_6 BK180 BK188 HB hq_; have HO_18 := n0_; have HO_189001 := n1_; have HO_5 := n2_; have HO_6 := n3_; have BK180 := n4_; have BK188 := n5_; have HB := n6_; clear n0_ n1_ n2_ n3_ n4_ n5_ n6_))))
 have n_ : _ ∧ _ ∧ _ ∧ _ ∧ _ ∧ _ ∧ _ := ⟨Aside0.mk (Kd.R_drew HO_5.out), Aside0.mk (Kd.R_drew HO_6.out), Aside0.mk (Kd.R_drew HO_18.out), Aside0.mk (Kd.R_drew HO_189001.out), Aside0.mk (blk_drew BK180.out), Aside0.mk (blk_drew BK188.out), Aside0.mk (below_drew1 HB.out)⟩
 clear HO_5 HO_6 HO_18 HO_189001 BK180 BK188 HB
 obtain ⟨HO_5, HO_6, HO_18, HO_189001, BK180, BK188, HB⟩ := n_
 have p201 : 0 ≤ (0 : Int) := (by omega)
 have q201 : 0 < (l0.length : Int) := of_decide_eq_true zA
 obtain ⟨ad201, A201_1, c201_1, A201_2, c201_2, e201, hx201_0, hx201_1, hx201_2, hl201_1, hi201_1, hl201_2, hi201_2⟩ := at_T29 HR0.out 0 p201 q201
 have hw201_2 := hx201_2
 try simp only [z00, Nat.zero_mul, Addr.add_zero'] at hw201_2
 have hw201_1 := hx201_1
 try simp only [z00, Nat.zero_mul, Addr.add_zero'] at hw201_1
 have hw201_0 := hx201_0
 try simp only [z00, Nat.zero_mul, Addr.add_zero'] at hw201_0
 obtain rfl : adp0 = ad201 := (by injection e201)
 have qi201 : (0 < l0.length) = True := eq_true (by omega)
 try simp only [z00, Nat.zero_mul, Addr.add_zero'] at hx201_0 hx201_1 hx201_2
 replace hx201_0 := zc HB hx201_0
 replace hx201_1 := zc HB hx201_1
 replace hx201_2 := zc HB hx201_2
 have HR201_1 := Aside0.mk hi201_1
 have HC201_1 := Aside0.mk hl201_1
 clear hi201_1 hl201_1
 have HR201_2 := Aside0.mk hi201_2
 have HC201_2 := Aside0.mk hl201_2
 clear hi201_2 hl201_2
 replace p201 := eq_true p201
 replace q201 := eq_true q201
 have p202 : 0 ≤ (x20_1 : Int) := of_decide_eq_true zA
 have q202 : x20_1 < (((rd_T29 l0 0).f1).length : Int) := of_decide_eq_true zA
 obtain ⟨ad202, e202, hx202_0, hx202_1, hx202_2⟩ := at_T61 HR201_1.out x20_1 p202 q202
 have hw202_2 := hx202_2
 have hw202_1 := hx202_1
 have hw202_0 := hx202_0
 cases e202
 replace hx202_0 := zc HB hx202_0
 replace hx202_1 := zc HB hx202_1
 replace hx202_2 := zc HB hx202_2
 replace p202 := eq_true p202
 replace q202 := eq_true q202
 refine start_ (n := 20) (S := fun w' => w'.cell? ⟨gb188, 0, none⟩ = some (.int .i8 ((rd_T29 l0 0).f0)) ∧ w'.cell? ⟨gb188, 1, none⟩ = some (u189001) ∧ w'.cell? ⟨gb188, 2, none⟩ = some (.slice none 0 0) ∧ w'.cell? adp0 = some (.int .i8 ((rd_T29 l0 0).f0)) ∧ w'.cell? ⟨adp0.block, adp0.off + 1, none⟩ = some (.slice (some ad202) ((rd_T29 l0 0).f1).length c201_1) ∧ w'.cell? ⟨adp0.block, adp0.off + 2, none⟩ = some (.slice A201_2 ((rd_T29 l0 0).f2).length c201_2) ∧ w'.cell? (ad202.add ((x20_1).toNat * 3)) = some (.int .i8 ((rd_T61 ((rd_T29 l0 0).f1) x20_1).f0)) ∧ w'.cell? ⟨(ad202.add ((x20_1).toNat * 3)).block, (ad202.add ((x20_1).toNat * 3)).off + 1, none⟩ = some (.int .i16 ((rd_T61 ((rd_T29 l0 0).f1) x20_1).f1)) ∧ w'.cell? ⟨(ad202.add ((x20_1).toNat * 3)).block, (ad202.add ((x20_1).toNat * 3)).off + 2, none⟩ = some (.int .i16 ((rd_T61 ((rd_T29 l0 0).f1) x20_1).f2))) (ds := [19]) (zq 20 0) (by kernel_rfl) rfl rfl ⟨(blk_cell BK188.out 0).trans rfl, (blk_cell BK188.out 1).trans rfl, (blk_cell BK188.out 2).trans rfl, (zc HB hw201_0), (zc HB hw201_1), (zc HB hw201_2), (zc HB hw202_0), (zc HB hw202_1), (zc HB hw202_2)⟩ (fun hHeld => ?_); refine with_tabW impl_Network_merged.tab8 impl_Network_merged.bits8 (fun HT_ HW_ => ?_)
 generalize wr.drew = w26 at HO_5 HO_6 HO_18 HO_189001 BK180 BK188 HB HR201_1 HR201_2 hx201_0 hx201_1 hx201_2 hx202_0 hx202_1 hx202_2 hHeld ⊢
 refine zpu 0 (some 32) (zq 20 1) HT_ ?_
 refine zpu 1 (some 33) (zq 20 3) HT_ ?_
 refine zpu 4 (some 36) (zq 20 19) HT_ ?_
 refine zpu 6 (some 38) (zq 20 83) HT_ ?_
 refine zpu 7 (some 39) (zq 20 211) HT_ ?_
 refine zpu 8 (some 40) (zq 20 467) HT_ ?_
 refine zpu 10 (some 42) (zq 20 1491) HT_ ?_
 refine zpu 13 (some 45) (zq 20 9683) HT_ ?_
 refine ztk 5 (some 37) (zq 20 9715) HT_ HW_ rfl hHeld (Or.inl ⟨by rfl, by (rintro w' ⟨s0, s1, s2, s3, s4, s5, s6, s7, s8⟩; go_simp; with_reducible rfl)⟩) ?_
 refine ztk 9 (some 41) (zq 20 10227) HT_ HW_ rfl hHeld (Or.inl ⟨by rfl, by (rintro w' ⟨s0, s1, s2, s3, s4, s5, s6, s7, s8⟩; go_simp; with_reducible rfl)⟩) ?_
 refine zpu 11 (some 43) (zq 20 12275) HT_ ?_
 refine ztk 12 (some 44) (zq 20 16371) HT_ HW_ rfl hHeld (Or.inl ⟨by rfl, by (rintro w' ⟨s0, s1, s2, s3, s4, s5, s6, s7, s8⟩; go_simp; with_reducible rfl)⟩) ?_
 refine one_ (i := 2) (N := some 34) (zq 20 16375) rfl rfl (one_of HT_.out (by kernel_rfl)) (by decide) (fun K hK => ?_)
 refine value_ (w1 := ?_) (v := ?_) (by rfl) rfl ?_ ?_
 rotate_left 2
 ·go_simp
  constructor
  rotate_left
  ·rfl
  rfl
 refine hK.out _ _ ⟨(blk_cell (blk_alloc BK188.out _) 0).trans rfl, (blk_cell (blk_alloc BK188.out _) 1).trans rfl, (blk_cell (blk_alloc BK188.out _) 2).trans rfl, (World.cell?_alloc_lt _ _ _ (World.block_lt_of_cell? _ _ ((zc HB hw201_0)))).trans ((zc HB hw201_0)), (World.cell?_alloc_lt _ _ _ (World.block_lt_of_cell? _ _ ((zc HB hw201_1)))).trans ((zc HB hw201_1)), (World.cell?_alloc_lt _ _ _ (World.block_lt_of_cell? _ _ ((zc HB hw201_2)))).trans ((zc HB hw201_2)), (World.cell?_alloc_lt _ _ _ (World.block_lt_of_cell? _ _ ((zc HB hw202_0)))).trans ((zc HB hw202_0)), (World.cell?_alloc_lt _ _ _ (World.block_lt_of_cell? _ _ ((zc HB hw202_1)))).trans ((zc HB hw202_1)), (World.cell?_alloc_lt _ _ _ (World.block_lt_of_cell? _ _ ((zc HB hw202_2)))).trans ((zc HB hw202_2))⟩ (fun hHeld => ?_)
 clear hK K
 refine norm_ (a' := ?_) ?_ ?_
 rotate_left
 ·show Act.put _ (some 34) _ = _
  exact zap
 refine one_ (i := 3) (N := some 35) (zq 20 16383) rfl rfl (one_of HT_.out (by kernel_rfl)) (by decide) (fun K hK => ?_)
 refine Kd.R_append_step (Kd.int .u64) (w0 := w) w.heap.size (by rfl) (.tmp 32) (.tmp 34) 64 66 (.int .u64 0) 8 rfl Try.underlying64 info66 rfl (by decide) (by omega) (.slice Ao25 x6_1.length co25) x6_1 (rd t189 x20_1) [.int .u64 (rd t189 x20_1)] (fun k_ => some k_ ≠ (.slice (some ad196) t189.length co13 : Value).ownBlock) (fun _ => False) rfl rfl ?aP (fun _ hk => hk.elim) ?aF ?aO ?aB ?aS ?aL ?_
 (case aP => exact rfl)
 (case aB => exact zbo)
 (case aF => exact (fun k_ hk => Kd.fresh' (Kd.R_lt (ze HO_18).out) k_ hk))
 (case aO => exact (ze HO_6).out)
 (case aS => exact (zz HB))
 (case aL => have := LMc19.out; omega)
 intro v199 w27 ho hb hg hat
 rw [← Ny198.out] at ho
 have n_ : _ ∧ _ ∧ _ ∧ _ ∧ _ ∧ _ ∧ _ := ⟨Aside0.mk (Kd.R_over' (ze HO_5).out (Kd.R_typed (ze HO_6).out) (by decide) hg), Aside0.mk (Kd.R_after (ok := (fun _ => True)) (by (with_reducible repeat (first | apply Kd.R_alloc | apply Kd.R_drewN | apply Kd.R_drew)); exact Kd.R_mono HO_18.out (fun _ hk => ⟨trivial, hk⟩)) hg hat), Aside0.mk (Kd.R_over' (ze HO_189001).out (Kd.R_typed (ze HO_6).out) (by decide) hg), Aside0.mk (blk_grown (g := gb180) (o := .cells #[.int .i8 0, .slice none 0 0, .slice none 0 0] 29 (0, 0)) (zh BK180).out hg (Kd.R_ne HO_6.out BK180.out (by decide))), Aside0.mk (blk_grown (g := gb188) (o := .cells #[.int .i8 ((rd_T29 l0 0).f0), u189001, .slice none 0 0] 29 (0, 0)) (zh BK188).out hg (Kd.R_ne HO_6.out BK188.out (by decide))), Aside0.mk (hb), Aside0.mk (ho)⟩
 clear HO_5 HO_18 HO_189001 BK180 BK188 HB HO_6
 obtain ⟨HO_5, HO_18, HO_189001, BK180, BK188, HB, HO200⟩ := n_
 clear ho hb hg hat
 obtain ⟨Ao28, co28, eo28⟩ := Kd.R_slice HO_5.out
 (first | subst eo28 | (injection eo28 with f1_ f2_ f3_; have f4_ := f1_.symm; have f5_ := f3_.symm; clear f1_ f2_ f3_; subst f4_; subst f5_))
 refine hK.out _ _ ⟨(blk_cell BK188.out 0).trans rfl, (blk_cell BK188.out 1).trans rfl, (blk_cell BK188.out 2).trans rfl, (zc HB hw201_0), (zc HB hw201_1), (zc HB hw201_2), (zc HB hw202_0), (zc HB hw202_1), (zc HB hw202_2)⟩ (fun hHeld => ?_)
 clear hK K
 refine norm_ (a' := ?_) ?_ ?_
 rotate_left
 ·show Act.put _ (some 35) _ = _
  exact zap
 refine one_ (i := 14) (N := some 46) (zq 20 32767) rfl rfl (one_of HT_.out (by kernel_rfl)) (by decide) (fun K hK => ?_)
 refine goes_ Try.func52 (by kernel_rfl) rfl #[.agg #[.int .i8 ((rd_T61 ((rd_T29 l0 0).f1) x20_1).f0), .int .i16 ((rd_T61 ((rd_T29 l0 0).f1) x20_1).f1), .int .i16 ((rd_T61 ((rd_T29 l0 0).f1) x20_1).f2)], .slice Ao28 x5_1.length co28] (by rfl) rfl rfl zm ?_
 with_reducible refine (impl_Node_renamed.calls ((rd_T61 ((rd_T29 l0 0).f1) x20_1).f0) ((rd_T61 ((rd_T29 l0 0).f1) x20_1).f1) ((rd_T61 ((rd_T29 l0 0).f1) x20_1).f2) _ _ x5_1 t203 t204 t205 _ ?side1 ?side2 A22.out).mono ?_
 (case side1 => exact zrc HO_5)
 (case side2 => exact (Kd.R_reads' HO_5.out).2.1)
 rintro e w29 ⟨rfl, hb⟩
 refine ⟨_, rfl, ?_⟩
 have n_ : _ ∧ _ ∧ _ ∧ _ ∧ _ ∧ _ ∧ _ := ⟨zr HO_5 hb, zr HO_18 hb, zr HO_189001 hb, zr HO200 hb, zk BK180 hb, zk BK188 hb, zbs hb⟩
 clear HO_5 HO_18 HO_189001 HO200 BK180 BK188 HB
 obtain ⟨HO_5, HO_18, HO_189001, HO200, BK180, BK188, HB⟩ := n_
 (try clear hb)
 (try clear hb2)
 (try clear hk)
 (try clear hi)
 refine hK.out _ _ ⟨(blk_cell BK188.out 0).trans rfl, (blk_cell BK188.out 1).trans rfl, (blk_cell BK188.out 2).trans rfl, (zc HB hw201_0), (zc HB hw201_1), (zc HB hw201_2), (zc HB hw202_0), (zc HB hw202_1), (zc HB hw202_2)⟩ (fun hHeld => ?_)
 clear hK K
 refine norm_ (a' := ?_) ?_ ?_
 rotate_left
 ·show Act.put _ (some 46) _ = _
  exact zap
 refine one_ (i := 15) (N := some 47) (zq 20 65535) rfl rfl (one_of HT_.out (by kernel_rfl)) (by decide) (fun K hK => ?_)
 refine value_ (w1 := ?_) (v := ?_) (by rfl) rfl ?_ ?_
 rotate_left 2
 ·go_simp
  constructor
  rotate_left
  ·rfl
  rfl
 refine hK.out _ _ ⟨(blk_cell (blk_alloc BK188.out _) 0).trans rfl, (blk_cell (blk_alloc BK188.out _) 1).trans rfl, (blk_cell (blk_alloc BK188.out _) 2).trans rfl, (World.cell?_alloc_lt _ _ _ (World.block_lt_of_cell? _ _ ((zc HB hw201_0)))).trans ((zc HB hw201_0)), (World.cell?_alloc_lt _ _ _ (World.block_lt_of_cell? _ _ ((zc HB hw201_1)))).trans ((zc HB hw201_1)), (World.cell?_alloc_lt _ _ _ (World.block_lt_of_cell? _ _ ((zc HB hw201_2)))).trans ((zc HB hw201_2)), (World.cell?_alloc_lt _ _ _ (World.block_lt_of_cell? _ _ ((zc HB hw202_0)))).trans ((zc HB hw202_0)), (World.cell?_alloc_lt _ _ _ (World.block_lt_of_cell? _ _ ((zc HB hw202_1)))).trans ((zc HB hw202_1)), (World.cell?_alloc_lt _ _ _ (World.block_lt_of_cell? _ _ ((zc HB hw202_2)))).trans ((zc HB hw202_2))⟩ (fun hHeld => ?_)
 clear hK K
 refine norm_ (a' := ?_) ?_ ?_
 rotate_left
 ·show Act.put _ (some 47) _ = _
  exact zap
 refine one_ (i := 16) (N := some 48) (zq 20 131071) rfl rfl (one_of HT_.out (by kernel_rfl)) (by decide) (fun K hK => ?_)
 refine Kd.R_append_step k61 (w0 := w) w.heap.size (by rfl) (.tmp 37) (.tmp 47) 26 61 (.agg #[(.int .i8 0), (.int .i16 0), (.int .i16 0)]) 6 rfl Try.underlying26 info61 rfl (by decide) (by omega) u189001 x189001_1 (⟨t203, t204, t205⟩ : S61) [.int .i8 t203, .int .i16 t204, .int .i16 t205] (fun _ => True) (fun _ => False) rfl rfl ?aP (fun _ hk => hk.elim) ?aF ?aO ?aB ?aS ?aL ?_
 (case aP => exact k61_mkM _ _ _ (⟨t203, t204, t205⟩ : S61))
 (case aB => exact zbo)
 (case aF => exact (fun _ _ => trivial))
 (case aO => exact (ze HO_189001).out)
 (case aS => exact (zz HB))
 (case aL => have := LMc23.out; omega)
 intro v207 w30 ho hb hg hat
 rw [← Ny206.out] at ho
 have n_ : _ ∧ _ ∧ _ ∧ _ ∧ _ ∧ _ ∧ _ := ⟨Aside0.mk (Kd.R_over' (ze HO_5).out (Kd.R_typed (ze HO_189001).out) (by decide) hg), Aside0.mk (Kd.R_over' (ze HO_18).out (Kd.R_typed (ze HO_189001).out) (by decide) hg), Aside0.mk (blk_grown (g := gb180) (o := .cells #[.int .i8 0, .slice none 0 0, .slice none 0 0] 29 (0, 0)) (zh BK180).out hg (Kd.R_ne HO_189001.out BK180.out (by decide))), Aside0.mk (blk_grown (g := gb188) (o := .cells #[.int .i8 ((rd_T29 l0 0).f0), u189001, .slice none 0 0] 29 (0, 0)) (zh BK188).out hg (Kd.R_ne HO_189001.out BK188.out (by decide))), Aside0.mk (Kd.R_over' (ze HO200).out (Kd.R_typed (ze HO_189001).out) (by decide) hg), Aside0.mk (hb), Aside0.mk (ho)⟩
 clear HO_5 HO_18 BK180 BK188 HO200 HB HO_189001
 obtain ⟨HO_5, HO_18, BK180, BK188, HO200, HB, HO208⟩ := n_
 clear ho hb hg hat
 obtain ⟨Ao31, co31, eo31⟩ := Kd.R_slice HO208.out
 (first | subst eo31 | (injection eo31 with f1_ f2_ f3_; have f4_ := f1_.symm; have f5_ := f3_.symm; clear f1_ f2_ f3_; subst f4_; subst f5_))
 refine hK.out _ _ ⟨(blk_cell BK188.out 0).trans rfl, (blk_cell BK188.out 1).trans rfl, (blk_cell BK188.out 2).trans rfl, (zc HB hw201_0), (zc HB hw201_1), (zc HB hw201_2), (zc HB hw202_0), (zc HB hw202_1), (zc HB hw202_2)⟩ (fun hHeld => ?_)
 clear hK K
 refine norm_ (a' := ?_) ?_ ?_
 rotate_left
 ·show Act.put _ (some 48) _ = _
  exact zap
 refine zpu 17 (some 6) (zq 20 262143) HT_ ?_
 refine zpu 18 (some 49) (zq 20 524287) HT_ ?_
 refine last_ (i := 19) (N := none) (zq 20 1048575) rfl rfl (one_of HT_.out (by kernel_rfl)) (by decide) (fun K hK => ?_)
 have hs32 : w30.cell? ⟨gb188, 1, none⟩ = some (u189001) := (blk_cell BK188.out 1).trans rfl
 have hfs32 := blk_frozen BK188.out 1
 have hns32_0 := NB180_188.out
 have hms32_0 := NB188_180.out
 refine skip_ (w1 := ?_) (by rfl) rfl ?_ ?_
 rotate_left
 ·go_simp
  rfl
 refine hK.out _ _ ?_
 clear hK K
 refine done_ (done_of HT_.out (by kernel_rfl)) ?_
 try go_wp2_with (first | ((with_reducible refine gate_builtin (b := .append) (xs := #[.tmp 50, .tmp 53]) rfl ?_); at_builtin; refine Kd.R_append (Kd.int .i16) (w0 := w) w.heap.size rfl (.tmp 50) (.tmp 53) 27 54 (.int .i16 0) 2 rfl Try.underlying27 info54 rfl (by decide) (by omega) (.slice Ao28 x5_1.length co28) x5_1 (IntKind.i16.wrap ((x6_1.length : Int))) [.int .i16 (IntKind.i16.wrap ((x6_1.length : Int)))] (fun _ => True) (fun _ => False) rfl (by first | (go_simp; done) | (go_simp; rfl)) ?aP (fun _ hk => hk.elim) ?aF ?aO ?aB ?aS ?aL ?_; (case aP => exact rfl); (case aB => exact zbo); (case aF => exact (fun _ _ => trivial)); (case aO => exact (Kd.R_mono (zs HO_5 BK188).out (fun _ hk => trivial))); (case aS => exact (zz HB)); (case aL => have := LMc24.out; omega); intro v210 w33 ho hb hg hat; rw [← Ny209.out] at ho; have n_ : _ ∧ _ ∧ _ ∧ _ ∧ _ ∧ _ ∧ _ := ⟨Aside0.mk (Kd.R_over' (zs HO_18 BK188).out (Kd.R_typed (zs HO_5 BK188).out) (by decide) hg), Aside0.mk (blk_grown (g := gb180) (o := .cells #[.int .i8 0, .slice none 0 0, .slice none 0 0] 29 (0, 0)) (zf BK180 NB180_188).out hg (Kd.R_ne HO_5.out BK180.out (by decide))), Aside0.mk (blk_grown (g := gb188) (o := .cells #[.int .i8 ((rd_T29 l0 0).f0), .slice Ao31 y206.length co31, .slice none 0 0] 29 (0, 0)) (zp BK188) hg (Kd.R_ne HO_5.out BK188.out (by decide))), Aside0.mk (Kd.R_over' (zs HO200 BK188).out (Kd.R_typed (zs HO_5 BK188).out) (by decide) hg), Aside0.mk (Kd.R_over' (zs HO208 BK188).out (Kd.R_typed (zs HO_5 BK188).out) (by decide) hg), Aside0.mk (hb), Aside0.mk (ho)⟩; clear HO_18 BK180 BK188 HO200 HO208 HB HO_5; obtain ⟨HO_18, BK180, BK188, HO200, HO208, HB, HO211⟩ := n_; clear ho hb hg hat))
 go_roundg k1
 case measure => have := HK1.out; omega
 case rel => exact ⟨(y209), (y198), (wrap64 (x20_1 + 1)), (y206), (.slice Ao31 y206.length co31), zi, H', ⟨by have := HK1.out; omega⟩, ze HO211, ze HO200, ⟨by (with_reducible repeat (first | apply Kd.R_alloc | apply Kd.R_drewN | apply Kd.R_drew)); exact Kd.R_mono HO_18.out (fun _ hk => hk.2)⟩, ze HO208, zh BK180, zh BK188, zba⟩
-- NOT PRINTED: function 60 (impl_Node_1)

-- NOT PRINTED: function 54 (impl_Node)

end Go.Proofs.Ytkflenibdijnaaa.PFnAdders
