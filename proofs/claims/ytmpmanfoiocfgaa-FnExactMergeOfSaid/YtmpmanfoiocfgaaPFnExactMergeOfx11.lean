-- WRITTEN by xprint.py, a program of this session's. Not trusted: Lean checks it.
-- packed by pack.py
import Derived.Test.YtmpmanfoiocfgaaPFnExactMergeOfx0
import Derived.Test.YtmpmanfoiocfgaaPFnExactMergeOfx8
import Derived.Test.YtmpmanfoiocfgaaPFnExactMergeOfx9
import Derived.Test.YtmpmanfoiocfgaaPFnExactMergeOfx10
import Derived.Test.YtmpmanfoiocfgaaTFnExactMergeOfa
namespace Go.Proofs.Ytmpmanfoiocfgaa.PFnExactMergeOf
open Go.RowKit Go.Proofs.YtmpmanfoiocfgaaW.PrintWords Go.Proofs.YtmpmanfoiocfgaaW.PrintLast Go.Proofs.YtmpmanfoiocfgaaW.PrintMore Go.Proofs.YtmpmanfoiocfgaaX
attribute [local go_sem] max2_int min2_int max_two min_two max_three min_three max_four min_four   -- for this text's walks alone
set_option linter.unusedVariables false
set_option linter.unusedSimpArgs false

/-! ### impl_Network_merged: function 122 -/
def impl_Network_merged.l0 : Nat → List (S31) → List Int → List Int → List Int → Int → Int → Int → List (S81) → Option (Int × (List (S81)) × List Int × List Int)
  | 0, _, _, _, _, _, _, _, _ => none
  | k + 1, x0, x5, x6, x18, x19, x20, x337000, x337001 => if x20 < x19 then (if 0 ≤ x20 then (if x20 < (x18.length : Int) then ((slices_Index_uint64_uint64.f k x6 (rd x18 x20)).bind fun t345 => (if t345 < 0 then (if x6.length < 17592186044416 then (if 0 < (x0.length : Int) then (if x20 < (((rd_T31 x0 0).f1).length : Int) then ((impl_Node_renamed.f ((rd_T81 ((rd_T31 x0 0).f1) x20).f0) ((rd_T81 ((rd_T31 x0 0).f1) x20).f1) ((rd_T81 ((rd_T31 x0 0).f1) x20).f2) x5).bind fun bt351 => (if x337001.length < 23456248059221 then (if x5.length < 70368744177664 then (impl_Network_merged.l0 k x0 (x5 ++ [IntKind.i16.wrap ((x6.length : Int))]) (x6 ++ [rd x18 x20]) x18 x19 (wrap64 (x20 + 1)) x337000 (x337001 ++ [(⟨bt351.1, bt351.2.1, bt351.2.2⟩ : S81)])) else (none)) else (none))) else (none)) else (none)) else (none)) else (if x5.length < 70368744177664 then (impl_Network_merged.l0 k x0 (x5 ++ [IntKind.i16.wrap (t345)]) x6 x18 x19 (wrap64 (x20 + 1)) x337000 x337001) else (none)))) else (none)) else (none)) else (if 0 < (x0.length : Int) then ((impl_renamedAll.f k ((rd_T31 x0 0).f2) x5).bind fun t341 => (some (x337000, x337001, t341, x5))) else (none))
def impl_Network_merged.f (k : Nat) (l0 : List (S31)) : Option (Int × (List (S81)) × List Int × List Int) := if 0 < (l0.length : Int) then ((impl_Network_tables.f k l0).bind fun t337 => (impl_Network_merged.l0 k l0 (([] : List Int)) (([] : List Int)) t337 (t337.length : Int) 0 ((rd_T31 l0 0).f0) ([] : List (S81)))) else (none)
theorem impl_Network_merged.mono_l : ∀ k, (∀ y0 y1 y2 y3 y4 y5 y6 y7, LeO (impl_Network_merged.l0 k y0 y1 y2 y3 y4 y5 y6 y7) (impl_Network_merged.l0 (k + 1) y0 y1 y2 y3 y4 y5 y6 y7))
  | 0 => fun _ _ _ _ _ _ _ _ r h => by simp [impl_Network_merged.l0] at h
  | k + 1 => by
    have ih0 := impl_Network_merged.mono_l k
    · intro y0 y1 y2 y3 y4 y5 y6 y7
      unfold impl_Network_merged.l0
      repeat' first | (with_reducible first | apply ih0 | apply impl_Network_tables.mono | apply impl_renamedAll.mono | apply slices_Index_uint64_uint64.mono | exact LeO.refl _ | exact LeO.none _ | refine LeO.ite ?_ ?_ | refine LeO.bind ?_ (fun _ => ?_)) | apply ih0 | apply impl_Network_tables.mono | apply impl_renamedAll.mono | apply slices_Index_uint64_uint64.mono | exact LeO.none _ | refine LeO.ite ?_ ?_ | refine LeO.bind ?_ (fun _ => ?_)
theorem impl_Network_merged.mono : ∀ a0 k, LeO (impl_Network_merged.f k a0) (impl_Network_merged.f (k + 1) a0) := by
 intro a0 k
 have ih0 := impl_Network_merged.mono_l k
 unfold impl_Network_merged.f
 repeat' first | (with_reducible first | apply ih0 | apply impl_Network_tables.mono | apply impl_renamedAll.mono | apply slices_Index_uint64_uint64.mono | exact LeO.refl _ | exact LeO.none _ | refine LeO.ite ?_ ?_ | refine LeO.bind ?_ (fun _ => ?_)) | apply ih0 | apply impl_Network_tables.mono | apply impl_renamedAll.mono | apply slices_Index_uint64_uint64.mono | exact LeO.none _ | refine LeO.ite ?_ ?_ | refine LeO.bind ?_ (fun _ => ?_)
def impl_Network_merged.T8 : Bool × List (List Nat × List Nat) := (true, [([], []), ([], []), ([1], [1]), ([0, 2], [0, 2]), ([], []), ([4], [4]), ([], []), ([6], [6]), ([7], [7]), ([8], [8]), ([], []), ([9, 10], [9, 10]), ([11], [11]), ([], []), ([12, 13, 3], [12, 13]), ([14], [14]), ([5, 15, 14], [5, 15]), ([3, 16, 0, 1, 2, 3], [0, 3]), ([0, 1, 2, 3, 4, 5, 6, 7, 8, 9, 10, 11, 12, 13, 14, 15, 16, 17], []), ([18, 16, 17, 0, 1, 2, 3, 4, 5, 6, 7, 8, 9, 10, 11, 12, 13, 14, 15, 16, 17], [16, 18])])
def impl_Network_merged.B8 : List Nat := [0, 0, 2, 7, 0, 16, 0, 64, 192, 448, 0, 1984, 4032, 0, 16335, 32719, 65535, 131071, 262143, 524287]
theorem impl_Network_merged.tab8 : rtab .any (opsOf Try.f122 8) = impl_Network_merged.T8 := by kernel_rfl
theorem impl_Network_merged.bits8 : waitsOk impl_Network_merged.T8.2 impl_Network_merged.B8 = true := by kernel_rfl
set_option maxHeartbeats 8000000 in
set_option maxRecDepth 100000 in
theorem impl_Network_merged.calls (k : Nat) (adp0 : Addr) (l0 : List (S31)) (r1 : Int) (r2 : List (S81)) (r3 : List Int) (r4 : List Int) (w : World) (hr0 : Kd.C k31 w (some adp0) l0.length l0) (h : impl_Network_merged.f k l0 = some (r1, r2, r3, r4)) :
    Calls Try.prog 122 #[.pointer (some adp0)] w fun e w' => ∃ v1_ v2_ v3_ : Value, e = .returned (.tuple #[.agg #[.int .i8 r1, v1_, v2_], v3_]) ∧ Kd.R k81 81 w' w.heap.size (fun _ => True) v1_ r2 ∧ Kd.R (Kd.int .i16) 79 w' w.heap.size (fun k_ => some k_ ≠ (v3_ : Value).ownBlock) v2_ r3 ∧ Kd.R (Kd.int .i16) 79 w' w.heap.size (fun k_ => some k_ ≠ (v2_ : Value).ownBlock) v3_ r4 ∧ Below w.heap.size w w' := by
 have hu31 := Try.underlying31
 have hu81 := Try.underlying81
 have HR0 := Aside0.mk hr0
 clear hr0
 have HB := Aside0.mk (Below.refl w.heap.size w)
 have H : (if 0 < (l0.length : Int) then ((impl_Network_tables.f k l0).bind fun t337 => (impl_Network_merged.l0 k l0 (([] : List Int)) (([] : List Int)) t337 (t337.length : Int) 0 ((rd_T31 l0 0).f0) ([] : List (S81)))) else (none)) = some (r1, r2, r3, r4) := h
 clear h
 by_cases c2 : 0 < (l0.length : Int)
 rotate_left
 ·rw [if_neg c2] at H
  exact absurd H (by simp)
 rw [if_pos c2] at H
 have c2b0 : decide (0 < (l0.length : Int)) = true := decide_eq_true c2
 have c2b1 : decide (0 < l0.length) = true := decide_eq_true (by omega)
 clear c2
 obtain ⟨y330, hy330⟩ : ∃ y_ : List Int, y_ = (([] : List Int)) := ⟨_, rfl⟩
 replace H : ((impl_Network_tables.f k l0).bind fun t337 => (impl_Network_merged.l0 k l0 y330 (([] : List Int)) t337 (t337.length : Int) 0 ((rd_T31 l0 0).f0) ([] : List (S81)))) = some (r1, r2, r3, r4) := by first | (rw [hy330]; with_reducible exact H) | (have H2_ := (Option.bind_some _ _).symm.trans H; rw [hy330]; with_reducible exact H2_) | (have H2_ := (Option.bind_some _ _).symm.trans H; with_reducible exact H2_) | with_reducible exact H | (rw [hy330]; exact H) | exact H
 have Ny330 := Aside0.mk hy330
 clear hy330
 obtain ⟨y333, hy333⟩ : ∃ y_ : List Int, y_ = (([] : List Int)) := ⟨_, rfl⟩
 replace H : ((impl_Network_tables.f k l0).bind fun t337 => (impl_Network_merged.l0 k l0 y330 y333 t337 (t337.length : Int) 0 ((rd_T31 l0 0).f0) ([] : List (S81)))) = some (r1, r2, r3, r4) := by first | (rw [hy333]; with_reducible exact H) | (have H2_ := (Option.bind_some _ _).symm.trans H; rw [hy333]; with_reducible exact H2_) | (have H2_ := (Option.bind_some _ _).symm.trans H; with_reducible exact H2_) | with_reducible exact H | (rw [hy333]; exact H) | exact H
 have Ny333 := Aside0.mk hy333
 clear hy333
 replace H := Option.bind_eq_some_iff.mp H
 obtain ⟨t337, A30, H⟩ := H
 replace H : (impl_Network_merged.l0 k l0 y330 y333 t337 (t337.length : Int) 0 ((rd_T31 l0 0).f0) ([] : List (S81))) = some (r1, r2, r3, r4) := H
 have A3 := Aside0.mk A30
 clear A30
 have H' := Aside0.mk H
 clear H
 go_enter Try.func122, Try.ntmps122
 go_wp2_with (first | ((with_reducible refine gate_dst (N := 2) rfl ?_); refine box_event ?hg (N := 2) ?hd (cs := #[.int .i8 0, .slice none 0 0, .slice none 0 0]) (t := 31) ?hr ?_; (case hd => rfl); (case hg => rfl); (case hr => first | (go_simp; done) | (go_simp; rfl)); intro gb328 hg w4 hbox hb; have n_ : _ ∧ _ ∧ _ ∧ _ := ⟨zb HB hb, Aside0.mk (hbox), zg HB hg, zg HB hg⟩; clear HB; obtain ⟨HB, BK328, GW328, GE328⟩ := n_; clear hb hbox hg; have p329 : 0 ≤ (0 : Int) := (by omega); have q329 : 0 < (l0.length : Int) := of_decide_eq_true (by first | (with_reducible assumption) | assumption); obtain ⟨ad329, A329_1, c329_1, A329_2, c329_2, e329, hx329_0, hx329_1, hx329_2, hl329_1, hi329_1, hl329_2, hi329_2⟩ := at_T31 HR0.out 0 p329 q329; obtain rfl : adp0 = ad329 := (by injection e329); have qi329 : (0 < l0.length) = True := eq_true (by omega); (try rw [show ((0 : Int)).toNat = 0 from rfl] at hx329_0); (try rw [show 0 * 3 = 0 from rfl] at hx329_0); (try rw [Addr.add_zero'] at hx329_0); (try rw [show ((0 : Int)).toNat = 0 from rfl] at hx329_1); (try rw [show 0 * 3 = 0 from rfl] at hx329_1); (try rw [Addr.add_zero'] at hx329_1); (try rw [show ((0 : Int)).toNat = 0 from rfl] at hx329_2); (try rw [show 0 * 3 = 0 from rfl] at hx329_2); (try rw [Addr.add_zero'] at hx329_2); replace hx329_0 := zc HB hx329_0; replace hx329_1 := zc HB hx329_1; replace hx329_2 := zc HB hx329_2; have HR329_1 := Aside0.mk hi329_1; have HC329_1 := Aside0.mk hl329_1; clear hi329_1 hl329_1; have HR329_2 := Aside0.mk hi329_2; have HC329_2 := Aside0.mk hl329_2; clear hi329_2 hl329_2; replace p329 := eq_true p329; replace q329 := eq_true q329) | ((with_reducible refine gate_dst (N := 15) rfl ?_); refine Kd.R_lit (Kd.int .i16) _ 79 ?hg (N := 15) ?hd (xs := ([] : List Int)) (inner := []) (ok := fun _ => True) (okp := fun _ => True) ?hr ?hp (fun _ hk => hk) trivial (Below.refl _ _) (Nat.le_refl _) (by simp) ?_; (case hd => rfl); (case hg => rfl); (case hr => first | (go_simp; done) | (go_simp; rfl)); (case hp => exact (Reps.none _ _)); intro v331 w5 ho6 hb hg_ hnew_; clear hg_ hnew_; (first | rw [← Ny330.out] at ho6 | (simp only [Int.reduceToNat] at ho6; rw [← Ny330.out] at ho6)); have n_ : _ ∧ _ ∧ _ := ⟨Aside0.mk (Kd.R_lower ho6 (zz HB)), zk BK328 hb, zbs hb⟩; clear BK328 HB; obtain ⟨HO332, BK328, HB⟩ := n_; clear hb ho6) | ((with_reducible refine gate_dst (N := 16) rfl ?_); refine Kd.R_lit (Kd.int .u64) _ 98 ?hg (N := 16) ?hd (xs := ([] : List Int)) (inner := []) (ok := fun _ => True) (okp := fun _ => True) ?hr ?hp (fun _ hk => hk) trivial (Below.refl _ _) (Nat.le_refl _) (by simp) ?_; (case hd => rfl); (case hg => rfl); (case hr => first | (go_simp; done) | (go_simp; rfl)); (case hp => exact (Reps.none _ _)); intro v334 w7 ho8 hb hg_ hnew_; clear hg_ hnew_; (first | rw [← Ny333.out] at ho8 | (simp only [Int.reduceToNat] at ho8; rw [← Ny333.out] at ho8)); have n_ : _ ∧ _ ∧ _ ∧ _ := ⟨zr HO332 hb, Aside0.mk (Kd.R_lower ho8 (zz HB)), zk BK328 hb, zbs hb⟩; clear HO332 BK328 HB; obtain ⟨HO332, HO335, BK328, HB⟩ := n_; clear hb ho8) | ((with_reducible refine gate_dst (N := 4) rfl ?_); refine box_event ?hg (N := 4) ?hd (cs := #[.int .i8 0, .slice none 0 0, .slice none 0 0]) (t := 31) ?hr ?_; (case hd => rfl); (case hg => rfl); (case hr => first | (go_simp; done) | (go_simp; rfl)); intro gb336 hg w9 hbox hb; have n_ : _ ∧ _ ∧ _ ∧ _ ∧ _ ∧ _ ∧ _ ∧ _ ∧ _ := ⟨zr HO332 hb, zr HO335 hb, zk BK328 hb, zbs hb, Aside0.mk (hbox), zg HB hg, zg HB hg, zn1 BK328 hg, zn2 BK328 hg⟩; clear HO332 HO335 BK328 HB; obtain ⟨HO332, HO335, BK328, HB, BK336, GW336, GE336, NB328_336, NB336_328⟩ := n_; clear hb hbox hg; have hnb10 := NB336_328.out; have hnc10 := NB328_336.out; obtain ⟨z11_0, z11_1, z11_2, y11_0, y11_1, y11_2⟩ := zB3 BK336) | ((with_reducible refine gate_callee (f := 97) rfl ?_); refine goesL_ (some 18) rfl rfl Try.func97 (by kernel_rfl) rfl #[.pointer (some adp0)] rfl (by (try simp only [List.map_toArray, List.map_cons, List.map_nil]); first | done | rfl | (simp only [List.length_drop, List.length_take]; rfl)) ?_; (with_reducible refine (impl_Network_tables.calls k _ l0 t337 _ ?side1 A3.out).mono ?_); (case side1 => exact Kd.C_below HR0.out (by repeat (first | (with_reducible first | exact HB.out | apply below_alloc | apply pw_below_drewN | apply below_drew1 | refine below_set ?_ GE328.out | refine below_set ?_ GE336.out) | exact HB.out))); rintro e w12 ⟨v338, rfl, ho0, hb⟩; refine ⟨_, rfl, ?_⟩; have n_ : _ ∧ _ ∧ _ ∧ _ ∧ _ ∧ _ := ⟨zsb HO332 BK336 hb, Aside0.mk (Kd.R_elder' (zs HO335 BK336).out (Kd.R_base ho0) hb), Aside0.mk (Kd.R_lower (Kd.R_new' ho0 (Kd.R_lt (zs HO335 BK336).out)) (zz HB)), zfb BK328 NB328_336 hb, Aside0.mk (blk_below (g := gb336) (o := .cells #[.int .i8 ((rd_T31 l0 0).f0), .slice none 0 0, .slice none 0 0] 31 (0, 0)) (by (with_reducible repeat (first | refine blk_drewN ?_ _ | refine blk_drew ?_ | refine blk_alloc ?_ _)); refine blk_put (cs := #[.int .i8 ((rd_T31 l0 0).f0), .slice none 0 0, .slice none 0 0]) ?_ 2 _ rfl; (with_reducible repeat (first | refine blk_drewN ?_ _ | refine blk_drew ?_ | refine blk_alloc ?_ _)); refine blk_put (cs := #[.int .i8 ((rd_T31 l0 0).f0), .slice none 0 0, .slice none 0 0]) ?_ 1 _ rfl; (with_reducible repeat (first | refine blk_drewN ?_ _ | refine blk_drew ?_ | refine blk_alloc ?_ _)); refine blk_put (cs := #[.int .i8 0, .slice none 0 0, .slice none 0 0]) ?_ 0 _ rfl; (with_reducible repeat (first | refine blk_drewN ?_ _ | refine blk_drew ?_ | refine blk_alloc ?_ _)); exact BK336.out) hb), zbs hb⟩; clear HO332 HO335 BK328 BK336 HB; obtain ⟨HO332, HO335, HO339, BK328, BK336, HB⟩ := n_; (try clear hb); (try clear hb2); (try clear hk); (try clear hi); (try clear ho0); obtain ⟨Ao13, co13, eo13⟩ := Kd.R_slice HO339.out; subst eo13))
 go_loopg [5, 6, 20] k (fun kq v5 v6 v20 w' => ∃ (x5_1 : List Int) (x6_1 : List Int) (x20_1 : Int) (x337001_1 : List (S81)) (u337001 : Value), v20 = .int .i64 x20_1 ∧ Aside0 (impl_Network_merged.l0 kq l0 x5_1 x6_1 t337 (t337.length : Int) x20_1 ((rd_T31 l0 0).f0) x337001_1 = some (r1, r2, r3, r4)) ∧ Aside0 (kq ≤ k) ∧ Aside0 (Kd.R (Kd.int .i16) 79 w' w.heap.size (fun _ => True) v5 x5_1) ∧ Aside0 (Kd.R (Kd.int .u64) 98 w' w.heap.size (fun k_ => some k_ ≠ ((.slice Ao13 t337.length co13) : Value).ownBlock) v6 x6_1) ∧ Aside0 (Kd.R (Kd.int .u64) 98 w' w.heap.size (fun k_ => some k_ ≠ (v6 : Value).ownBlock) (.slice Ao13 t337.length co13) t337) ∧ Aside0 (Kd.R k81 81 w' w.heap.size (fun _ => True) u337001 x337001_1) ∧ Aside0 (w'.heap[gb328]? = some (.cells #[.int .i8 0, (.slice none 0 0), (.slice none 0 0)] 31 (0, 0))) ∧ Aside0 (w'.heap[gb336]? = some (.cells #[.int .i8 ((rd_T31 l0 0).f0), u337001, (.slice none 0 0)] 31 (0, 0))) ∧ Aside0 (Below w.heap.size w w'))
 case atStart => exact ⟨(y330), (y333), (0), (([] : List (S81))), (.slice none 0 0), (by first | rfl | (simp; done) | (simp [*]; done) | (exact congrArg (Value.int .i64) (wrap_eq (by omega)))), H', ⟨Nat.le_refl _⟩, ze HO332, ⟨by (with_reducible repeat (first | apply Kd.R_alloc | apply Kd.R_drewN | apply Kd.R_drew)); exact Kd.R_mono HO335.out (fun _ hk => hk.2)⟩, ⟨by (with_reducible repeat (first | apply Kd.R_alloc | apply Kd.R_drewN | apply Kd.R_drew)); exact Kd.R_mono HO339.out (fun _ hk => hk.2)⟩, ⟨by first | exact Kd.R_nil _ _ _ _ _ | exact Kd.N_nil _ _ _ _ _ | exact Kd.V_nil _ _ _ _ _ | exact Kd.Q_nil _ _ _ _ _ | exact Kd.S_nil _ _ _ _ _⟩, zh BK328, zh BK336, zba⟩
 clear H'
 try clear c1
 try clear c2
 try clear c2b0
 try clear c2b1
 try clear p2
 try clear c3
 try clear p3
 try clear q3
 try clear hx3
 try clear qi3
 try clear c9
 try clear c10
 try clear c12
 try clear z11_0 z11_1 z11_2 y11_0 y11_1 y11_2
 try clear hx329_0
 try clear hx329_1
 try clear hx329_2
 try clear p329
 try clear q329
 obtain ⟨x5_1, x6_1, x20_1, x337001_1, u337001, rfl, HA, HK1, HO_5, HO_6, HO_18, HO_337001, BK328, BK336, HB⟩ := hrel
 cases gk with
 | zero => exact absurd HA.out (by simp [impl_Network_merged.l0])
 | succ k1 => ?_
 have H := HA.out
 clear HA
 simp only [impl_Network_merged.l0] at H
 by_cases c14 : x20_1 < (t337.length : Int)
 rotate_left
 ·rw [if_neg c14] at H
  have c14b0 : decide (x20_1 < (t337.length : Int)) = false := decide_eq_false c14
  clear c14
  by_cases c37 : 0 < (l0.length : Int)
  rotate_left
  ·rw [if_neg c37] at H
   exact absurd H (by simp)
  rw [if_pos c37] at H
  have c37b0 : decide (0 < (l0.length : Int)) = true := decide_eq_true c37
  have c37b1 : decide (0 < l0.length) = true := decide_eq_true (by omega)
  clear c37
  replace H := Option.bind_eq_some_iff.mp H
  obtain ⟨t341, A380, H⟩ := H
  replace H : (some (((rd_T31 l0 0).f0), x337001_1, t341, x5_1)) = some (r1, r2, r3, r4) := H
  have A38 := Aside0.mk A380
  clear A380
  simp only [Option.some.injEq, Prod.mk.injEq] at H
  obtain ⟨rfl, rfl, rfl, rfl⟩ := H
  have p340 : 0 ≤ (0 : Int) := (by omega)
  have q340 : 0 < (l0.length : Int) := of_decide_eq_true (by first | (with_reducible assumption) | assumption)
  obtain ⟨ad340, A340_1, c340_1, A340_2, c340_2, e340, hx340_0, hx340_1, hx340_2, hl340_1, hi340_1, hl340_2, hi340_2⟩ := at_T31 HR0.out 0 p340 q340
  obtain rfl : adp0 = ad340 := (by injection e340)
  have qi340 : (0 < l0.length) = True := eq_true (by omega)
  (try rw [show ((0 : Int)).toNat = 0 from rfl] at hx340_0)
  (try rw [show 0 * 3 = 0 from rfl] at hx340_0)
  (try rw [Addr.add_zero'] at hx340_0)
  (try rw [show ((0 : Int)).toNat = 0 from rfl] at hx340_1)
  (try rw [show 0 * 3 = 0 from rfl] at hx340_1)
  (try rw [Addr.add_zero'] at hx340_1)
  (try rw [show ((0 : Int)).toNat = 0 from rfl] at hx340_2)
  (try rw [show 0 * 3 = 0 from rfl] at hx340_2)
  (try rw [Addr.add_zero'] at hx340_2)
  replace hx340_0 := zc HB hx340_0
  replace hx340_1 := zc HB hx340_1
  replace hx340_2 := zc HB hx340_2
  have HR340_1 := Aside0.mk hi340_1
  have HC340_1 := Aside0.mk hl340_1
  clear hi340_1 hl340_1
  have HR340_2 := Aside0.mk hi340_2
  have HC340_2 := Aside0.mk hl340_2
  clear hi340_2 hl340_2
  replace p340 := eq_true p340
  replace q340 := eq_true q340
  obtain ⟨Ao39, co39, eo39⟩ := Kd.R_slice HO_5.out
  subst eo39
  go_wp2_with (first | ((with_reducible refine gate_callee (f := 106) rfl ?_); refine goesL_ (some 61) rfl rfl Try.func106 (by kernel_rfl) rfl #[.slice A340_2 ((rd_T31 l0 0).f2).length c340_2, .slice Ao39 x5_1.length co39] rfl (by (try simp only [List.map_toArray, List.map_cons, List.map_nil]); first | done | rfl | (simp only [List.length_drop, List.length_take]; rfl)) ?_; (with_reducible refine (impl_renamedAll.calls k1 _ _ ((rd_T31 l0 0).f2) _ _ x5_1 t341 _ ?side1 ?side2 ?side3 ?side4 A38.out).mono ?_); (case side1 => exact zcc HB HR340_2.out); (case side2 => exact HC340_2.out); (case side3 => exact zrc HO_5); (case side4 => exact (Kd.R_reads' HO_5.out).2.1); rintro e w40 ⟨v342, rfl, ho0, hb⟩; refine ⟨_, rfl, ?_⟩; have n_ : _ ∧ _ ∧ _ ∧ _ ∧ _ ∧ _ ∧ _ ∧ _ := ⟨Aside0.mk (Kd.R_elder' (ze HO_5).out (Kd.R_base ho0) hb), zr HO_6 hb, zr HO_18 hb, zr HO_337001 hb, Aside0.mk (Kd.R_lower (Kd.R_new' ho0 (Kd.R_lt (ze HO_5).out)) (zz HB)), zk BK328 hb, zk BK336 hb, zbs hb⟩; clear HO_5 HO_6 HO_18 HO_337001 BK328 BK336 HB; obtain ⟨HO_5, HO_6, HO_18, HO_337001, HO343, BK328, BK336, HB⟩ := n_; (try clear hb); (try clear hb2); (try clear hk); (try clear hi); (try clear ho0); obtain ⟨Ao41, co41, eo41⟩ := Kd.R_slice HO343.out; subst eo41; have hnb42 := NB336_328.out; have hnc42 := NB328_336.out; obtain ⟨z43_0, z43_1, z43_2, y43_0, y43_1, y43_2⟩ := zB3 BK336; obtain ⟨z44_0, z44_1, z44_2, y44_0, y44_1, y44_2⟩ := zB3 BK328; obtain ⟨Ao45, co45, eo45⟩ := Kd.R_slice HO_337001.out; subst eo45))
  refine bodyPost_ret (results_ct rfl _ _ gb328 31 #[.int .i8 ((rd_T31 l0 0).f0), .slice Ao45 x337001_1.length co45, .slice Ao41 t341.length co41] (0, 0) _ rfl (by (with_reducible repeat (first | refine blk_drewN ?_ _ | refine blk_drew ?_ | refine blk_alloc ?_ _)); refine blk_put (cs := #[.int .i8 ((rd_T31 l0 0).f0), .slice Ao45 x337001_1.length co45, .slice none 0 0]) ?_ 2 _ rfl; (with_reducible repeat (first | refine blk_drewN ?_ _ | refine blk_drew ?_ | refine blk_alloc ?_ _)); refine blk_put (cs := #[.int .i8 ((rd_T31 l0 0).f0), .slice none 0 0, .slice none 0 0]) ?_ 1 _ rfl; (with_reducible repeat (first | refine blk_drewN ?_ _ | refine blk_drew ?_ | refine blk_alloc ?_ _)); refine blk_put (cs := #[.int .i8 0, .slice none 0 0, .slice none 0 0]) ?_ 0 _ rfl; (with_reducible repeat (first | refine blk_drewN ?_ _ | refine blk_drew ?_ | refine blk_alloc ?_ _)); refine blk_far ?_ NB328_336.out _; (with_reducible repeat (first | refine blk_drewN ?_ _ | refine blk_drew ?_ | refine blk_alloc ?_ _)); exact BK328.out) Try.underlying31 rfl (by kernel_rfl)) rfl ?_
  exact ⟨_, _, _, by first | rfl | (simp [errW_none, errW_some] <;> rfl) | (simp [*, errW_none, errW_some] <;> rfl), by (with_reducible repeat (first | apply Kd.R_alloc | apply Kd.R_drewN | apply Kd.R_drew)); exact Kd.R_mono (Kd.R_far (p := ⟨gb328, 2, none⟩) (Kd.R_far (p := ⟨gb328, 1, none⟩) (Kd.R_far (p := ⟨gb328, 0, none⟩) (Kd.R_far (p := ⟨gb336, 2, none⟩) (Kd.R_types (Kd.R_types HO_337001.out BK336.out (by decide)) BK328.out (by decide)) (fun _ hk => hk.1.2) (.slice Ao41 t341.length co41)) (fun _ hk => hk.2) (.int .i8 ((rd_T31 l0 0).f0))) (fun _ hk => hk.2) (.slice Ao45 x337001_1.length co45)) (fun _ hk => hk.2) (.slice Ao41 t341.length co41)) (fun _ hk => trivial), by (with_reducible repeat (first | apply Kd.R_alloc | apply Kd.R_drewN | apply Kd.R_drew)); exact Kd.R_mono (Kd.R_far (p := ⟨gb328, 2, none⟩) (Kd.R_far (p := ⟨gb328, 1, none⟩) (Kd.R_far (p := ⟨gb328, 0, none⟩) (Kd.R_far (p := ⟨gb336, 2, none⟩) (Kd.R_types (Kd.R_types HO343.out BK336.out (by decide)) BK328.out (by decide)) (fun _ hk => hk.1.2) (.slice Ao41 t341.length co41)) (fun _ hk => hk.2) (.int .i8 ((rd_T31 l0 0).f0))) (fun _ hk => hk.2) (.slice Ao45 x337001_1.length co45)) (fun _ hk => hk.2) (.slice Ao41 t341.length co41)) (fun _ hk => hk.1.1.2), by (with_reducible repeat (first | apply Kd.R_alloc | apply Kd.R_drewN | apply Kd.R_drew)); exact Kd.R_mono (Kd.R_far (p := ⟨gb328, 2, none⟩) (Kd.R_far (p := ⟨gb328, 1, none⟩) (Kd.R_far (p := ⟨gb328, 0, none⟩) (Kd.R_far (p := ⟨gb336, 2, none⟩) (Kd.R_types (Kd.R_types HO_5.out BK336.out (by decide)) BK328.out (by decide)) (fun _ hk => hk.1.2) (.slice Ao41 t341.length co41)) (fun _ hk => hk.2) (.int .i8 ((rd_T31 l0 0).f0))) (fun _ hk => hk.2) (.slice Ao45 x337001_1.length co45)) (fun _ hk => hk.2) (.slice Ao41 t341.length co41)) (fun _ hk => hk.1.1.2), by repeat (first | (with_reducible first | exact HB.out | apply below_alloc | apply pw_below_drewN | apply below_drew1 | refine below_set ?_ GE328.out | refine below_set ?_ GE336.out) | exact HB.out)⟩
 rw [if_pos c14] at H
 have c14b0 : decide (x20_1 < (t337.length : Int)) = true := decide_eq_true c14
 clear c14
 by_cases c15 : 0 ≤ x20_1
 rotate_left
 ·rw [if_neg c15] at H
  exact absurd H (by simp)
 rw [if_pos c15] at H
 have c15b0 : decide (0 ≤ x20_1) = true := decide_eq_true c15
 clear c15
 by_cases c16 : x20_1 < (t337.length : Int)
 rotate_left
 ·rw [if_neg c16] at H
  exact absurd H (by simp)
 rw [if_pos c16] at H
 have c16b0 : decide (x20_1 < (t337.length : Int)) = true := decide_eq_true c16
 clear c16
 replace H := Option.bind_eq_some_iff.mp H
 obtain ⟨t345, A170, H⟩ := H
 replace H : (if t345 < 0 then (if x6_1.length < 17592186044416 then (if 0 < (l0.length : Int) then (if x20_1 < (((rd_T31 l0 0).f1).length : Int) then ((impl_Node_renamed.f ((rd_T81 ((rd_T31 l0 0).f1) x20_1).f0) ((rd_T81 ((rd_T31 l0 0).f1) x20_1).f1) ((rd_T81 ((rd_T31 l0 0).f1) x20_1).f2) x5_1).bind fun bt351 => (if x337001_1.length < 23456248059221 then (if x5_1.length < 70368744177664 then (impl_Network_merged.l0 k1 l0 (x5_1 ++ [IntKind.i16.wrap ((x6_1.length : Int))]) (x6_1 ++ [rd t337 x20_1]) t337 (t337.length : Int) (wrap64 (x20_1 + 1)) ((rd_T31 l0 0).f0) (x337001_1 ++ [(⟨bt351.1, bt351.2.1, bt351.2.2⟩ : S81)])) else (none)) else (none))) else (none)) else (none)) else (none)) else (if x5_1.length < 70368744177664 then (impl_Network_merged.l0 k1 l0 (x5_1 ++ [IntKind.i16.wrap (t345)]) x6_1 t337 (t337.length : Int) (wrap64 (x20_1 + 1)) ((rd_T31 l0 0).f0) x337001_1) else (none))) = some (r1, r2, r3, r4) := H
 have A17 := Aside0.mk A170
 clear A170
 by_cases c18 : t345 < 0
 rotate_left
 ·rw [if_neg c18] at H
  have c18b0 : decide (t345 < 0) = false := decide_eq_false c18
  clear c18
  by_cases c34 : x5_1.length < 70368744177664
  rotate_left
  ·rw [if_neg c34] at H
   exact absurd H (by simp)
  rw [if_pos c34] at H
  have LMc34 := Aside0.mk c34
  clear c34
  obtain ⟨y360, hy360⟩ : ∃ y_ : List Int, y_ = (x5_1 ++ [IntKind.i16.wrap (t345)]) := ⟨_, rfl⟩
  replace H : (impl_Network_merged.l0 k1 l0 y360 x6_1 t337 (t337.length : Int) (wrap64 (x20_1 + 1)) ((rd_T31 l0 0).f0) x337001_1) = some (r1, r2, r3, r4) := by first | (rw [hy360]; with_reducible exact H) | (have H2_ := (Option.bind_some _ _).symm.trans H; rw [hy360]; with_reducible exact H2_) | (have H2_ := (Option.bind_some _ _).symm.trans H; with_reducible exact H2_) | with_reducible exact H | (rw [hy360]; exact H) | exact H
  have Ny360 := Aside0.mk hy360
  clear hy360
  have H' := Aside0.mk H
  clear H
  have p344 : 0 ≤ (x20_1 : Int) := of_decide_eq_true (by first | (with_reducible assumption) | assumption)
  have q344 : x20_1 < (t337.length : Int) := of_decide_eq_true (by first | (with_reducible assumption) | assumption)
  obtain ⟨ad344, e344, hx344_0⟩ := Kd.at_int (Kd.R_reads' HO_18.out).2.2 x20_1 p344 q344
  cases e344
  replace p344 := eq_true p344
  replace q344 := eq_true q344
  obtain ⟨Ao35, co35, eo35⟩ := Kd.R_slice HO_6.out
  subst eo35
  go_wp2_with (first | ((with_reducible refine gate_callee (f := 140) rfl ?_); refine goesL_ (some 27) rfl rfl Try.func140 (by kernel_rfl) rfl #[.slice Ao35 x6_1.length co35, .int .u64 (rd t337 x20_1)] rfl (by (try simp only [List.map_toArray, List.map_cons, List.map_nil]); first | done | rfl | (simp only [List.length_drop, List.length_take]; rfl)) ?_; (with_reducible refine (slices_Index_uint64_uint64.calls k1 _ _ x6_1 (rd t337 x20_1) t345 _ ?side1 ?side2 A17.out).mono ?_); (case side1 => exact zrc HO_6); (case side2 => exact (Kd.R_reads' HO_6.out).2.1); rintro e w' ⟨rfl, ⟨nd, rfl⟩⟩; refine ⟨_, rfl, ?_⟩) | ((with_reducible refine gate_builtin (b := .append) (xs := #[.tmp 50, .tmp 53]) rfl ?_); at_builtin; refine Kd.R_append (Kd.int .i16) (w0 := w) w.heap.size rfl (.tmp 50) (.tmp 53) 24 79 (.int .i16 0) 2 rfl Try.underlying24 info79 rfl (by decide) (by omega) u5 x5_1 (IntKind.i16.wrap (t345)) [.int .i16 (IntKind.i16.wrap (t345))] (fun _ => True) (fun _ => False) rfl rfl ?aP (fun _ hk => hk.elim) ?aF ?aO ?aB ?aS ?aL ?_; (case aP => exact rfl); (case aB => exact (by repeat (first | (with_reducible first | exact HB.out | apply below_alloc | apply pw_below_drewN | apply below_drew1 | refine below_set ?_ GE328.out | refine below_set ?_ GE336.out) | exact HB.out))); (case aF => exact (fun _ _ => trivial)); (case aO => exact (ze HO_5).out); (case aS => exact (zz HB)); (case aL => have := LMc34.out; omega); intro v361 w36 ho hb hg hat; rw [← Ny360.out] at ho; have n_ : _ ∧ _ ∧ _ ∧ _ ∧ _ ∧ _ ∧ _ := ⟨Aside0.mk (Kd.R_over' (ze HO_6).out (Kd.R_typed (ze HO_5).out) (by decide) hg), Aside0.mk (Kd.R_over' (ze HO_18).out (Kd.R_typed (ze HO_5).out) (by decide) hg), Aside0.mk (Kd.R_over' (ze HO_337001).out (Kd.R_typed (ze HO_5).out) (by decide) hg), Aside0.mk (blk_grown (g := gb328) (o := .cells #[.int .i8 0, .slice none 0 0, .slice none 0 0] 31 (0, 0)) (zh BK328).out hg (Kd.R_ne HO_5.out BK328.out (by decide))), Aside0.mk (blk_grown (g := gb336) (o := .cells #[.int .i8 ((rd_T31 l0 0).f0), u337001, .slice none 0 0] 31 (0, 0)) (zh BK336).out hg (Kd.R_ne HO_5.out BK336.out (by decide))), Aside0.mk (hb), Aside0.mk (ho)⟩; clear HO_6 HO_18 HO_337001 BK328 BK336 HB HO_5; obtain ⟨HO_6, HO_18, HO_337001, BK328, BK336, HB, HO362⟩ := n_; clear ho hb hg hat))
  go_roundg k1
  case measure => have := HK1.out; omega
  case rel => exact ⟨(y360), (x6_1), (wrap64 (x20_1 + 1)), (x337001_1), (u337001), (by first | rfl | (simp; done) | (simp [*]; done) | (exact congrArg (Value.int .i64) (wrap_eq (by omega)))), H', ⟨by have := HK1.out; omega⟩, ze HO362, ze HO_6, ze HO_18, ze HO_337001, zh BK328, zh BK336, zba⟩
 rw [if_pos c18] at H
 have c18b0 : decide (t345 < 0) = true := decide_eq_true c18
 clear c18
 by_cases c19 : x6_1.length < 17592186044416
 rotate_left
 ·rw [if_neg c19] at H
  exact absurd H (by simp)
 rw [if_pos c19] at H
 have LMc19 := Aside0.mk c19
 clear c19
 obtain ⟨y346, hy346⟩ : ∃ y_ : List Int, y_ = (x6_1 ++ [rd t337 x20_1]) := ⟨_, rfl⟩
 replace H : (if 0 < (l0.length : Int) then (if x20_1 < (((rd_T31 l0 0).f1).length : Int) then ((impl_Node_renamed.f ((rd_T81 ((rd_T31 l0 0).f1) x20_1).f0) ((rd_T81 ((rd_T31 l0 0).f1) x20_1).f1) ((rd_T81 ((rd_T31 l0 0).f1) x20_1).f2) x5_1).bind fun bt351 => (if x337001_1.length < 23456248059221 then (if x5_1.length < 70368744177664 then (impl_Network_merged.l0 k1 l0 (x5_1 ++ [IntKind.i16.wrap ((x6_1.length : Int))]) y346 t337 (t337.length : Int) (wrap64 (x20_1 + 1)) ((rd_T31 l0 0).f0) (x337001_1 ++ [(⟨bt351.1, bt351.2.1, bt351.2.2⟩ : S81)])) else (none)) else (none))) else (none)) else (none)) = some (r1, r2, r3, r4) := by first | (rw [hy346]; with_reducible exact H) | (have H2_ := (Option.bind_some _ _).symm.trans H; rw [hy346]; with_reducible exact H2_) | (have H2_ := (Option.bind_some _ _).symm.trans H; with_reducible exact H2_) | with_reducible exact H | (rw [hy346]; exact H) | exact H
 have Ny346 := Aside0.mk hy346
 clear hy346
 by_cases c20 : 0 < (l0.length : Int)
 rotate_left
 ·rw [if_neg c20] at H
  exact absurd H (by simp)
 rw [if_pos c20] at H
 have c20b0 : decide (0 < (l0.length : Int)) = true := decide_eq_true c20
 have c20b1 : decide (0 < l0.length) = true := decide_eq_true (by omega)
 clear c20
 by_cases c21 : x20_1 < (((rd_T31 l0 0).f1).length : Int)
 rotate_left
 ·rw [if_neg c21] at H
  exact absurd H (by simp)
 rw [if_pos c21] at H
 have c21b0 : decide (x20_1 < (((rd_T31 l0 0).f1).length : Int)) = true := decide_eq_true c21
 clear c21
 replace H := Option.bind_eq_some_iff.mp H
 obtain ⟨⟨t351, t352, t353⟩, A220, H⟩ := H
 replace H : (if x337001_1.length < 23456248059221 then (if x5_1.length < 70368744177664 then (impl_Network_merged.l0 k1 l0 (x5_1 ++ [IntKind.i16.wrap ((x6_1.length : Int))]) y346 t337 (t337.length : Int) (wrap64 (x20_1 + 1)) ((rd_T31 l0 0).f0) (x337001_1 ++ [(⟨t351, t352, t353⟩ : S81)])) else (none)) else (none)) = some (r1, r2, r3, r4) := H
 have A22 := Aside0.mk A220
 clear A220
 by_cases c23 : x337001_1.length < 23456248059221
 rotate_left
 ·rw [if_neg c23] at H
  exact absurd H (by simp)
 rw [if_pos c23] at H
 have LMc23 := Aside0.mk c23
 clear c23
 obtain ⟨y354, hy354⟩ : ∃ y_ : List (S81), y_ = (x337001_1 ++ [(⟨t351, t352, t353⟩ : S81)]) := ⟨_, rfl⟩
 replace H : (if x5_1.length < 70368744177664 then (impl_Network_merged.l0 k1 l0 (x5_1 ++ [IntKind.i16.wrap ((x6_1.length : Int))]) y346 t337 (t337.length : Int) (wrap64 (x20_1 + 1)) ((rd_T31 l0 0).f0) y354) else (none)) = some (r1, r2, r3, r4) := by first | (rw [hy354]; with_reducible exact H) | (have H2_ := (Option.bind_some _ _).symm.trans H; rw [hy354]; with_reducible exact H2_) | (have H2_ := (Option.bind_some _ _).symm.trans H; with_reducible exact H2_) | with_reducible exact H | (rw [hy354]; exact H) | exact H
 have Ny354 := Aside0.mk hy354
 clear hy354
 by_cases c24 : x5_1.length < 70368744177664
 rotate_left
 ·rw [if_neg c24] at H
  exact absurd H (by simp)
 rw [if_pos c24] at H
 have LMc24 := Aside0.mk c24
 clear c24
 obtain ⟨y357, hy357⟩ : ∃ y_ : List Int, y_ = (x5_1 ++ [IntKind.i16.wrap ((x6_1.length : Int))]) := ⟨_, rfl⟩
 replace H : (impl_Network_merged.l0 k1 l0 y357 y346 t337 (t337.length : Int) (wrap64 (x20_1 + 1)) ((rd_T31 l0 0).f0) y354) = some (r1, r2, r3, r4) := by first | (rw [hy357]; with_reducible exact H) | (have H2_ := (Option.bind_some _ _).symm.trans H; rw [hy357]; with_reducible exact H2_) | (have H2_ := (Option.bind_some _ _).symm.trans H; with_reducible exact H2_) | with_reducible exact H | (rw [hy357]; exact H) | exact H
 have Ny357 := Aside0.mk hy357
 clear hy357
 have H' := Aside0.mk H
 clear H
 have p344 : 0 ≤ (x20_1 : Int) := of_decide_eq_true (by first | (with_reducible assumption) | assumption)
 have q344 : x20_1 < (t337.length : Int) := of_decide_eq_true (by first | (with_reducible assumption) | assumption)
 obtain ⟨ad344, e344, hx344_0⟩ := Kd.at_int (Kd.R_reads' HO_18.out).2.2 x20_1 p344 q344
 cases e344
 replace p344 := eq_true p344
 replace q344 := eq_true q344
 obtain ⟨Ao25, co25, eo25⟩ := Kd.R_slice HO_6.out
 subst eo25
 try go_wp2_with (first | ((with_reducible refine gate_callee (f := 140) rfl ?_); refine goesL_ (some 27) rfl rfl Try.func140 (by kernel_rfl) rfl #[.slice Ao25 x6_1.length co25, .int .u64 (rd t337 x20_1)] rfl (by (try simp only [List.map_toArray, List.map_cons, List.map_nil]); first | done | rfl | (simp only [List.length_drop, List.length_take]; rfl)) ?_; (with_reducible refine (slices_Index_uint64_uint64.calls k1 _ _ x6_1 (rd t337 x20_1) t345 _ ?side1 ?side2 A17.out).mono ?_); (case side1 => exact zrc HO_6); (case side2 => exact (Kd.R_reads' HO_6.out).2.1); rintro e w' ⟨rfl, ⟨nd, rfl⟩⟩; refine ⟨_, rfl, ?_⟩; (try (rw [drewN_self wr]; generalize hq_ : World.drewN wr _ = wr; have n0_ : Aside0 (Kd.R (Kd.int .u64) 98 wr w.heap.size (fun k_ => some k_ ≠ (.slice Ao25 x6_1.length co25 : Value).ownBlock) (.slice (some ad344) t337.length co13) t337) := ⟨by rw [← hq_]; exact (ze HO_18).out⟩; have n1_ : Aside0 (Kd.R k81 81 wr w.heap.size (fun _ => True) u337001 x337001_1) := ⟨by rw [← hq_]; exact (ze HO_337001).out⟩; have n2_ : Aside0 (Kd.R (Kd.int .i16) 79 wr w.heap.size (fun _ => True) u5 x5_1) := ⟨by rw [← hq_]; exact (ze HO_5).out⟩; have n3_ : Aside0 (Kd.R (Kd.int .u64) 98 wr w.heap.size (fun k_ => some k_ ≠ (.slice (some ad344) t337.length co13 : Value).ownBlock) (.slice Ao25 x6_1.length co25) x6_1) := ⟨by rw [← hq_]; exact (ze HO_6).out⟩; have n4_ : Aside0 (wr.heap[gb328]? = some (.cells #[.int .i8 0, .slice none 0 0, .slice none 0 0] 31 (0, 0))) := ⟨by rw [← hq_]; exact (zh BK328).out⟩; have n5_ : Aside0 (wr.heap[gb336]? = some (.cells #[.int .i8 ((rd_T31 l0 0).f0), u337001, .slice none 0 0] 31 (0, 0))) := ⟨by rw [← hq_]; exact (zh BK336).out⟩; have n6_ : Aside0 (Below w.heap.size w wr) := ⟨by rw [← hq_]; exact (by repeat (first | (with_reducible first | exact HB.out | apply below_alloc | apply pw_below_drewN | apply below_drew1 | refine below_set ?_ GE328.out | refine below_set ?_ GE336.out) | exact HB.out))⟩; clear HO_18 HO_337001 HO_5 HO_6 BK328 BK336 HB hq_; have HO_18 := n0_; have HO_337001 := n1_; have HO_5 := n2_; have HO_6 := n3_; have BK328 := n4_; have BK336 := n5_; have HB := n6_; clear n0_ n1_ n2_ n3_ n4_ n5_ n6_))))
 have n0_ := Aside0.mk (Kd.R_drew HO_5.out)
 have n1_ := Aside0.mk (Kd.R_drew HO_6.out)
 have n2_ := Aside0.mk (Kd.R_drew HO_18.out)
 have n3_ := Aside0.mk (Kd.R_drew HO_337001.out)
 have n4_ := Aside0.mk (blk_drew BK328.out)
 have n5_ := Aside0.mk (blk_drew BK336.out)
 have n6_ := Aside0.mk (below_drew1 HB.out)
 clear HO_5
 clear HO_6
 clear HO_18
 clear HO_337001
 clear BK328
 clear BK336
 clear HB
 have HO_5 := n0_
 have HO_6 := n1_
 have HO_18 := n2_
 have HO_337001 := n3_
 have BK328 := n4_
 have BK336 := n5_
 have HB := n6_
 clear n0_ n1_ n2_ n3_ n4_ n5_ n6_
 have p349 : 0 ≤ (0 : Int) := (by omega)
 have q349 : 0 < (l0.length : Int) := of_decide_eq_true (by first | (with_reducible assumption) | assumption)
 obtain ⟨ad349, A349_1, c349_1, A349_2, c349_2, e349, hx349_0, hx349_1, hx349_2, hl349_1, hi349_1, hl349_2, hi349_2⟩ := at_T31 HR0.out 0 p349 q349
 have hw349_2 := hx349_2
 (try rw [show ((0 : Int)).toNat = 0 from rfl] at hw349_2)
 (try rw [show 0 * 3 = 0 from rfl] at hw349_2)
 (try rw [Addr.add_zero'] at hw349_2)
 have hw349_1 := hx349_1
 (try rw [show ((0 : Int)).toNat = 0 from rfl] at hw349_1)
 (try rw [show 0 * 3 = 0 from rfl] at hw349_1)
 (try rw [Addr.add_zero'] at hw349_1)
 have hw349_0 := hx349_0
 (try rw [show ((0 : Int)).toNat = 0 from rfl] at hw349_0)
 (try rw [show 0 * 3 = 0 from rfl] at hw349_0)
 (try rw [Addr.add_zero'] at hw349_0)
 obtain rfl : adp0 = ad349 := (by injection e349)
 have qi349 : (0 < l0.length) = True := eq_true (by omega)
 (try rw [show ((0 : Int)).toNat = 0 from rfl] at hx349_0)
 (try rw [show 0 * 3 = 0 from rfl] at hx349_0)
 (try rw [Addr.add_zero'] at hx349_0)
 (try rw [show ((0 : Int)).toNat = 0 from rfl] at hx349_1)
 (try rw [show 0 * 3 = 0 from rfl] at hx349_1)
 (try rw [Addr.add_zero'] at hx349_1)
 (try rw [show ((0 : Int)).toNat = 0 from rfl] at hx349_2)
 (try rw [show 0 * 3 = 0 from rfl] at hx349_2)
 (try rw [Addr.add_zero'] at hx349_2)
 replace hx349_0 := zc HB hx349_0
 replace hx349_1 := zc HB hx349_1
 replace hx349_2 := zc HB hx349_2
 have HR349_1 := Aside0.mk hi349_1
 have HC349_1 := Aside0.mk hl349_1
 clear hi349_1 hl349_1
 have HR349_2 := Aside0.mk hi349_2
 have HC349_2 := Aside0.mk hl349_2
 clear hi349_2 hl349_2
 replace p349 := eq_true p349
 replace q349 := eq_true q349
 have p350 : 0 ≤ (x20_1 : Int) := of_decide_eq_true (by first | (with_reducible assumption) | assumption)
 have q350 : x20_1 < (((rd_T31 l0 0).f1).length : Int) := of_decide_eq_true (by first | (with_reducible assumption) | assumption)
 obtain ⟨ad350, e350, hx350_0, hx350_1, hx350_2⟩ := at_T81 HR349_1.out x20_1 p350 q350
 have hw350_2 := hx350_2
 have hw350_1 := hx350_1
 have hw350_0 := hx350_0
 cases e350
 replace hx350_0 := zc HB hx350_0
 replace hx350_1 := zc HB hx350_1
 replace hx350_2 := zc HB hx350_2
 replace p350 := eq_true p350
 replace q350 := eq_true q350
 refine start_ (n := 20) (S := fun w' => w'.cell? ⟨gb336, 0, none⟩ = some (.int .i8 ((rd_T31 l0 0).f0)) ∧ w'.cell? ⟨gb336, 1, none⟩ = some (u337001) ∧ w'.cell? ⟨gb336, 2, none⟩ = some (.slice none 0 0) ∧ w'.cell? adp0 = some (.int .i8 ((rd_T31 l0 0).f0)) ∧ w'.cell? ⟨adp0.block, adp0.off + 1, none⟩ = some (.slice (some ad350) ((rd_T31 l0 0).f1).length c349_1) ∧ w'.cell? ⟨adp0.block, adp0.off + 2, none⟩ = some (.slice A349_2 ((rd_T31 l0 0).f2).length c349_2) ∧ w'.cell? (ad350.add ((x20_1).toNat * 3)) = some (.int .i8 ((rd_T81 ((rd_T31 l0 0).f1) x20_1).f0)) ∧ w'.cell? ⟨(ad350.add ((x20_1).toNat * 3)).block, (ad350.add ((x20_1).toNat * 3)).off + 1, none⟩ = some (.int .i16 ((rd_T81 ((rd_T31 l0 0).f1) x20_1).f1)) ∧ w'.cell? ⟨(ad350.add ((x20_1).toNat * 3)).block, (ad350.add ((x20_1).toNat * 3)).off + 2, none⟩ = some (.int .i16 ((rd_T81 ((rd_T31 l0 0).f1) x20_1).f2))) (ds := [19]) (zq 20 0) (by kernel_rfl) rfl rfl ⟨(blk_cell BK336.out 0).trans rfl, (blk_cell BK336.out 1).trans rfl, (blk_cell BK336.out 2).trans rfl, (zc HB hw349_0), (zc HB hw349_1), (zc HB hw349_2), (zc HB hw350_0), (zc HB hw350_1), (zc HB hw350_2)⟩ (fun hHeld => ?_); refine with_tabW impl_Network_merged.tab8 impl_Network_merged.bits8 (fun HT_ HW_ => ?_)
 generalize wr.drew = w26 at HO_5 HO_6 HO_18 HO_337001 BK328 BK336 HB HR349_1 HR349_2 hx349_0 hx349_1 hx349_2 hx350_0 hx350_1 hx350_2 hHeld ⊢
 refine zpu 0 (some 32) (zq 20 1) HT_ ?_
 refine zpu 1 (some 33) (zq 20 3) HT_ ?_
 refine zpu 4 (some 36) (zq 20 19) HT_ ?_
 refine zpu 6 (some 38) (zq 20 83) HT_ ?_
 refine zpu 7 (some 39) (zq 20 211) HT_ ?_
 refine zpu 8 (some 40) (zq 20 467) HT_ ?_
 refine zpu 10 (some 42) (zq 20 1491) HT_ ?_
 refine zpu 13 (some 45) (zq 20 9683) HT_ ?_
 refine ztk 5 (some 37) (zq 20 9715) HT_ HW_ rfl hHeld (Or.inl ⟨by rfl, by (rintro w' ⟨s0, s1, s2, s3, s4, s5, s6, s7, s8⟩; go_simp; with_reducible rfl)⟩) ?_
 refine ztk 9 (some 41) (zq 20 10227) HT_ HW_ rfl hHeld (Or.inl ⟨by rfl, by (rintro w' ⟨s0, s1, s2, s3, s4, s5, s6, s7, s8⟩; go_simp; with_reducible rfl)⟩) ?_
 refine zpu 11 (some 43) (zq 20 12275) HT_ ?_
 refine ztk 12 (some 44) (zq 20 16371) HT_ HW_ rfl hHeld (Or.inl ⟨by rfl, by (rintro w' ⟨s0, s1, s2, s3, s4, s5, s6, s7, s8⟩; go_simp; with_reducible rfl)⟩) ?_
 refine one_ (i := 2) (N := some 34) (zq 20 16375) rfl rfl (one_of HT_.out (by kernel_rfl)) (by decide) (fun K hK => ?_)
 refine value_ (w1 := ?_) (v := ?_) (by rfl) rfl ?_ ?_
 rotate_left 2
 ·go_simp
  constructor
  rotate_left
  ·rfl
  rfl
 refine hK.out _ _ ⟨(blk_cell (blk_alloc BK336.out _) 0).trans rfl, (blk_cell (blk_alloc BK336.out _) 1).trans rfl, (blk_cell (blk_alloc BK336.out _) 2).trans rfl, (World.cell?_alloc_lt _ _ _ (World.block_lt_of_cell? _ _ ((zc HB hw349_0)))).trans ((zc HB hw349_0)), (World.cell?_alloc_lt _ _ _ (World.block_lt_of_cell? _ _ ((zc HB hw349_1)))).trans ((zc HB hw349_1)), (World.cell?_alloc_lt _ _ _ (World.block_lt_of_cell? _ _ ((zc HB hw349_2)))).trans ((zc HB hw349_2)), (World.cell?_alloc_lt _ _ _ (World.block_lt_of_cell? _ _ ((zc HB hw350_0)))).trans ((zc HB hw350_0)), (World.cell?_alloc_lt _ _ _ (World.block_lt_of_cell? _ _ ((zc HB hw350_1)))).trans ((zc HB hw350_1)), (World.cell?_alloc_lt _ _ _ (World.block_lt_of_cell? _ _ ((zc HB hw350_2)))).trans ((zc HB hw350_2))⟩ (fun hHeld => ?_)
 clear hK K
 refine norm_ (a' := ?_) ?_ ?_
 rotate_left
 ·show Act.put _ (some 34) _ = _
  simp only [Act.put, List.setIfInBounds_toArray, List.set_cons_zero, List.set_cons_succ, i64_w, i32_w]
  rfl
 refine one_ (i := 3) (N := some 35) (zq 20 16383) rfl rfl (one_of HT_.out (by kernel_rfl)) (by decide) (fun K hK => ?_)
 refine Kd.R_append_step (Kd.int .u64) (w0 := w) w.heap.size (by rfl) (.tmp 32) (.tmp 34) 53 98 (.int .u64 0) 8 rfl Try.underlying53 info98 rfl (by decide) (by omega) (.slice Ao25 x6_1.length co25) x6_1 (rd t337 x20_1) [.int .u64 (rd t337 x20_1)] (fun k_ => some k_ ≠ (.slice (some ad344) t337.length co13 : Value).ownBlock) (fun _ => False) rfl rfl ?aP (fun _ hk => hk.elim) ?aF ?aO ?aB ?aS ?aL ?_
 (case aP => exact rfl)
 (case aB => exact (by repeat (first | (with_reducible first | exact HB.out | apply below_alloc | apply pw_below_drewN | apply below_drew1 | refine below_set ?_ GE328.out | refine below_set ?_ GE336.out) | exact HB.out)))
 (case aF => exact (fun k_ hk => Kd.fresh' (Kd.R_lt (ze HO_18).out) k_ hk))
 (case aO => exact (ze HO_6).out)
 (case aS => exact (zz HB))
 (case aL => have := LMc19.out; omega)
 intro v347 w27 ho hb hg hat
 rw [← Ny346.out] at ho
 have n0_ := Aside0.mk (Kd.R_over' (ze HO_5).out (Kd.R_typed (ze HO_6).out) (by decide) hg)
 have n1_ := Aside0.mk (Kd.R_after (ok := (fun _ => True)) (by (with_reducible repeat (first | apply Kd.R_alloc | apply Kd.R_drewN | apply Kd.R_drew)); exact Kd.R_mono HO_18.out (fun _ hk => ⟨trivial, hk⟩)) hg hat)
 have n2_ := Aside0.mk (Kd.R_over' (ze HO_337001).out (Kd.R_typed (ze HO_6).out) (by decide) hg)
 have n3_ := Aside0.mk (blk_grown (g := gb328) (o := .cells #[.int .i8 0, .slice none 0 0, .slice none 0 0] 31 (0, 0)) (zh BK328).out hg (Kd.R_ne HO_6.out BK328.out (by decide)))
 have n4_ := Aside0.mk (blk_grown (g := gb336) (o := .cells #[.int .i8 ((rd_T31 l0 0).f0), u337001, .slice none 0 0] 31 (0, 0)) (zh BK336).out hg (Kd.R_ne HO_6.out BK336.out (by decide)))
 have n5_ := Aside0.mk (hb)
 have n6_ := Aside0.mk (ho)
 clear HO_5
 clear HO_18
 clear HO_337001
 clear BK328
 clear BK336
 clear HB
 clear HO_6
 have HO_5 := n0_
 have HO_18 := n1_
 have HO_337001 := n2_
 have BK328 := n3_
 have BK336 := n4_
 have HB := n5_
 have HO348 := n6_
 clear n0_ n1_ n2_ n3_ n4_ n5_ n6_
 clear ho hb hg hat
 obtain ⟨Ao28, co28, eo28⟩ := Kd.R_slice HO_5.out
 (first | subst eo28 | (injection eo28 with f1_ f2_ f3_; have f4_ := f1_.symm; have f5_ := f3_.symm; clear f1_ f2_ f3_; subst f4_; subst f5_))
 refine hK.out _ _ ⟨(blk_cell BK336.out 0).trans rfl, (blk_cell BK336.out 1).trans rfl, (blk_cell BK336.out 2).trans rfl, (zc HB hw349_0), (zc HB hw349_1), (zc HB hw349_2), (zc HB hw350_0), (zc HB hw350_1), (zc HB hw350_2)⟩ (fun hHeld => ?_)
 clear hK K
 refine norm_ (a' := ?_) ?_ ?_
 rotate_left
 ·show Act.put _ (some 35) _ = _
  simp only [Act.put, List.setIfInBounds_toArray, List.set_cons_zero, List.set_cons_succ, i64_w, i32_w]
  rfl
 refine one_ (i := 14) (N := some 46) (zq 20 32767) rfl rfl (one_of HT_.out (by kernel_rfl)) (by decide) (fun K hK => ?_)
 refine goes_ Try.func107 (by kernel_rfl) rfl #[.agg #[.int .i8 ((rd_T81 ((rd_T31 l0 0).f1) x20_1).f0), .int .i16 ((rd_T81 ((rd_T31 l0 0).f1) x20_1).f1), .int .i16 ((rd_T81 ((rd_T31 l0 0).f1) x20_1).f2)], .slice Ao28 x5_1.length co28] (by rfl) rfl rfl (by (try simp only [List.map_toArray, List.map_cons, List.map_nil]); first | done | rfl | (simp only [List.length_drop, List.length_take]; rfl)) ?_
 with_reducible refine (impl_Node_renamed.calls ((rd_T81 ((rd_T31 l0 0).f1) x20_1).f0) ((rd_T81 ((rd_T31 l0 0).f1) x20_1).f1) ((rd_T81 ((rd_T31 l0 0).f1) x20_1).f2) _ _ x5_1 t351 t352 t353 _ ?side1 ?side2 A22.out).mono ?_
 (case side1 => exact zrc HO_5)
 (case side2 => exact (Kd.R_reads' HO_5.out).2.1)
 rintro e w29 ⟨rfl, hb⟩
 refine ⟨_, rfl, ?_⟩
 have n0_ := zr HO_5 hb
 have n1_ := zr HO_18 hb
 have n2_ := zr HO_337001 hb
 have n3_ := zr HO348 hb
 have n4_ := zk BK328 hb
 have n5_ := zk BK336 hb
 have n6_ := zbs hb
 clear HO_5
 clear HO_18
 clear HO_337001
 clear HO348
 clear BK328
 clear BK336
 clear HB
 have HO_5 := n0_
 have HO_18 := n1_
 have HO_337001 := n2_
 have HO348 := n3_
 have BK328 := n4_
 have BK336 := n5_
 have HB := n6_
 clear n0_ n1_ n2_ n3_ n4_ n5_ n6_
 (try clear hb)
 (try clear hb2)
 (try clear hk)
 (try clear hi)
 refine hK.out _ _ ⟨(blk_cell BK336.out 0).trans rfl, (blk_cell BK336.out 1).trans rfl, (blk_cell BK336.out 2).trans rfl, (zc HB hw349_0), (zc HB hw349_1), (zc HB hw349_2), (zc HB hw350_0), (zc HB hw350_1), (zc HB hw350_2)⟩ (fun hHeld => ?_)
 clear hK K
 refine norm_ (a' := ?_) ?_ ?_
 rotate_left
 ·show Act.put _ (some 46) _ = _
  simp only [Act.put, List.setIfInBounds_toArray, List.set_cons_zero, List.set_cons_succ, i64_w, i32_w]
  rfl
 refine one_ (i := 15) (N := some 47) (zq 20 65535) rfl rfl (one_of HT_.out (by kernel_rfl)) (by decide) (fun K hK => ?_)
 refine value_ (w1 := ?_) (v := ?_) (by rfl) rfl ?_ ?_
 rotate_left 2
 ·go_simp
  constructor
  rotate_left
  ·rfl
  rfl
 refine hK.out _ _ ⟨(blk_cell (blk_alloc BK336.out _) 0).trans rfl, (blk_cell (blk_alloc BK336.out _) 1).trans rfl, (blk_cell (blk_alloc BK336.out _) 2).trans rfl, (World.cell?_alloc_lt _ _ _ (World.block_lt_of_cell? _ _ ((zc HB hw349_0)))).trans ((zc HB hw349_0)), (World.cell?_alloc_lt _ _ _ (World.block_lt_of_cell? _ _ ((zc HB hw349_1)))).trans ((zc HB hw349_1)), (World.cell?_alloc_lt _ _ _ (World.block_lt_of_cell? _ _ ((zc HB hw349_2)))).trans ((zc HB hw349_2)), (World.cell?_alloc_lt _ _ _ (World.block_lt_of_cell? _ _ ((zc HB hw350_0)))).trans ((zc HB hw350_0)), (World.cell?_alloc_lt _ _ _ (World.block_lt_of_cell? _ _ ((zc HB hw350_1)))).trans ((zc HB hw350_1)), (World.cell?_alloc_lt _ _ _ (World.block_lt_of_cell? _ _ ((zc HB hw350_2)))).trans ((zc HB hw350_2))⟩ (fun hHeld => ?_)
 clear hK K
 refine norm_ (a' := ?_) ?_ ?_
 rotate_left
 ·show Act.put _ (some 47) _ = _
  simp only [Act.put, List.setIfInBounds_toArray, List.set_cons_zero, List.set_cons_succ, i64_w, i32_w]
  rfl
 refine one_ (i := 16) (N := some 48) (zq 20 131071) rfl rfl (one_of HT_.out (by kernel_rfl)) (by decide) (fun K hK => ?_)
 refine Kd.R_append_step k81 (w0 := w) w.heap.size (by rfl) (.tmp 37) (.tmp 47) 29 81 (.agg #[(.int .i8 0), (.int .i16 0), (.int .i16 0)]) 6 rfl Try.underlying29 info81 rfl (by decide) (by omega) u337001 x337001_1 (⟨t351, t352, t353⟩ : S81) [.int .i8 t351, .int .i16 t352, .int .i16 t353] (fun _ => True) (fun _ => False) rfl rfl ?aP (fun _ hk => hk.elim) ?aF ?aO ?aB ?aS ?aL ?_
 (case aP => exact k81_mkM _ _ _ (⟨t351, t352, t353⟩ : S81))
 (case aB => exact (by repeat (first | (with_reducible first | exact HB.out | apply below_alloc | apply pw_below_drewN | apply below_drew1 | refine below_set ?_ GE328.out | refine below_set ?_ GE336.out) | exact HB.out)))
 (case aF => exact (fun _ _ => trivial))
 (case aO => exact (ze HO_337001).out)
 (case aS => exact (zz HB))
 (case aL => have := LMc23.out; omega)
 intro v355 w30 ho hb hg hat
 rw [← Ny354.out] at ho
 have n0_ := Aside0.mk (Kd.R_over' (ze HO_5).out (Kd.R_typed (ze HO_337001).out) (by decide) hg)
 have n1_ := Aside0.mk (Kd.R_over' (ze HO_18).out (Kd.R_typed (ze HO_337001).out) (by decide) hg)
 have n2_ := Aside0.mk (blk_grown (g := gb328) (o := .cells #[.int .i8 0, .slice none 0 0, .slice none 0 0] 31 (0, 0)) (zh BK328).out hg (Kd.R_ne HO_337001.out BK328.out (by decide)))
 have n3_ := Aside0.mk (blk_grown (g := gb336) (o := .cells #[.int .i8 ((rd_T31 l0 0).f0), u337001, .slice none 0 0] 31 (0, 0)) (zh BK336).out hg (Kd.R_ne HO_337001.out BK336.out (by decide)))
 have n4_ := Aside0.mk (Kd.R_over' (ze HO348).out (Kd.R_typed (ze HO_337001).out) (by decide) hg)
 have n5_ := Aside0.mk (hb)
 have n6_ := Aside0.mk (ho)
 clear HO_5
 clear HO_18
 clear BK328
 clear BK336
 clear HO348
 clear HB
 clear HO_337001
 have HO_5 := n0_
 have HO_18 := n1_
 have BK328 := n2_
 have BK336 := n3_
 have HO348 := n4_
 have HB := n5_
 have HO356 := n6_
 clear n0_ n1_ n2_ n3_ n4_ n5_ n6_
 clear ho hb hg hat
 obtain ⟨Ao31, co31, eo31⟩ := Kd.R_slice HO356.out
 (first | subst eo31 | (injection eo31 with f1_ f2_ f3_; have f4_ := f1_.symm; have f5_ := f3_.symm; clear f1_ f2_ f3_; subst f4_; subst f5_))
 refine hK.out _ _ ⟨(blk_cell BK336.out 0).trans rfl, (blk_cell BK336.out 1).trans rfl, (blk_cell BK336.out 2).trans rfl, (zc HB hw349_0), (zc HB hw349_1), (zc HB hw349_2), (zc HB hw350_0), (zc HB hw350_1), (zc HB hw350_2)⟩ (fun hHeld => ?_)
 clear hK K
 refine norm_ (a' := ?_) ?_ ?_
 rotate_left
 ·show Act.put _ (some 48) _ = _
  simp only [Act.put, List.setIfInBounds_toArray, List.set_cons_zero, List.set_cons_succ, i64_w, i32_w]
  rfl
 refine zpu 17 (some 6) (zq 20 262143) HT_ ?_
 refine zpu 18 (some 49) (zq 20 524287) HT_ ?_
 refine last_ (i := 19) (N := none) (zq 20 1048575) rfl rfl (one_of HT_.out (by kernel_rfl)) (by decide) (fun K hK => ?_)
 have hs32 : w30.cell? ⟨gb336, 1, none⟩ = some (u337001) := (blk_cell BK336.out 1).trans rfl
 have hfs32 := blk_frozen BK336.out 1
 have hns32_0 := NB328_336.out
 have hms32_0 := NB336_328.out
 refine skip_ (w1 := ?_) (by rfl) rfl ?_ ?_
 rotate_left
 ·go_simp
  rfl
 refine hK.out _ _ ?_
 clear hK K
 refine done_ (done_of HT_.out (by kernel_rfl)) ?_
 try go_wp2_with (first | ((with_reducible refine gate_builtin (b := .append) (xs := #[.tmp 50, .tmp 53]) rfl ?_); at_builtin; refine Kd.R_append (Kd.int .i16) (w0 := w) w.heap.size rfl (.tmp 50) (.tmp 53) 24 79 (.int .i16 0) 2 rfl Try.underlying24 info79 rfl (by decide) (by omega) (.slice Ao28 x5_1.length co28) x5_1 (IntKind.i16.wrap ((x6_1.length : Int))) [.int .i16 (IntKind.i16.wrap ((x6_1.length : Int)))] (fun _ => True) (fun _ => False) rfl (by first | (go_simp; done) | (go_simp; rfl)) ?aP (fun _ hk => hk.elim) ?aF ?aO ?aB ?aS ?aL ?_; (case aP => exact rfl); (case aB => exact (by repeat (first | (with_reducible first | exact HB.out | apply below_alloc | apply pw_below_drewN | apply below_drew1 | refine below_set ?_ GE328.out | refine below_set ?_ GE336.out) | exact HB.out))); (case aF => exact (fun _ _ => trivial)); (case aO => exact (by (with_reducible repeat (first | apply Kd.R_alloc | apply Kd.R_drewN | apply Kd.R_drew)); exact Kd.R_mono (Kd.R_far (p := ⟨gb336, 1, none⟩) (Kd.R_types HO_5.out BK336.out (by decide)) (fun _ hk => hk.2) (.slice Ao31 y354.length co31)) (fun _ hk => trivial))); (case aS => exact (zz HB)); (case aL => have := LMc24.out; omega); intro v358 w33 ho hb hg hat; rw [← Ny357.out] at ho; have n_ : _ ∧ _ ∧ _ ∧ _ ∧ _ ∧ _ ∧ _ := ⟨Aside0.mk (Kd.R_over' (zs HO_18 BK336).out (Kd.R_typed (zs HO_5 BK336).out) (by decide) hg), Aside0.mk (blk_grown (g := gb328) (o := .cells #[.int .i8 0, .slice none 0 0, .slice none 0 0] 31 (0, 0)) (zf BK328 NB328_336).out hg (Kd.R_ne HO_5.out BK328.out (by decide))), Aside0.mk (blk_grown (g := gb336) (o := .cells #[.int .i8 ((rd_T31 l0 0).f0), .slice Ao31 y354.length co31, .slice none 0 0] 31 (0, 0)) (by (with_reducible repeat (first | refine blk_drewN ?_ _ | refine blk_drew ?_ | refine blk_alloc ?_ _)); refine blk_put (cs := #[.int .i8 ((rd_T31 l0 0).f0), u337001, .slice none 0 0]) ?_ 1 _ rfl; (with_reducible repeat (first | refine blk_drewN ?_ _ | refine blk_drew ?_ | refine blk_alloc ?_ _)); exact BK336.out) hg (Kd.R_ne HO_5.out BK336.out (by decide))), Aside0.mk (Kd.R_over' (zs HO348 BK336).out (Kd.R_typed (zs HO_5 BK336).out) (by decide) hg), Aside0.mk (Kd.R_over' (zs HO356 BK336).out (Kd.R_typed (zs HO_5 BK336).out) (by decide) hg), Aside0.mk (hb), Aside0.mk (ho)⟩; clear HO_18 BK328 BK336 HO348 HO356 HB HO_5; obtain ⟨HO_18, BK328, BK336, HO348, HO356, HB, HO359⟩ := n_; clear ho hb hg hat))
 go_roundg k1
 case measure => have := HK1.out; omega
 case rel => exact ⟨(y357), (y346), (wrap64 (x20_1 + 1)), (y354), (.slice Ao31 y354.length co31), (by first | rfl | (simp; done) | (simp [*]; done) | (exact congrArg (Value.int .i64) (wrap_eq (by omega)))), H', ⟨by have := HK1.out; omega⟩, ze HO359, ze HO348, ⟨by (with_reducible repeat (first | apply Kd.R_alloc | apply Kd.R_drewN | apply Kd.R_drew)); exact Kd.R_mono HO_18.out (fun _ hk => hk.2)⟩, ze HO356, zh BK328, zh BK336, zba⟩
/-! ### impl_MergeOf: function 68 -/
def impl_MergeOf.l0 : Nat → List Int → List Int → Int → Int → Int → List (S81) → List Int → Option (Int × (List (S81)) × List Int × List Int × Int)
  | 0, _, _, _, _, _, _, _ => none
  | k + 1, x7, x19, x20, x21, x377000, x377001, x377002 => if x21 < x20 then (if 0 ≤ x21 then (if x21 < (x19.length : Int) then (if x7.length < 17592186044416 then (impl_MergeOf.l0 k (x7 ++ [wrap64 (rd x19 x21)]) x19 x20 (wrap64 (x21 + 1)) x377000 x377001 x377002) else (none)) else (none)) else (none)) else (some (x377000, x377001, x377002, x7, 0))
def impl_MergeOf.f (k : Nat) (a0_0 : Int) (l0_1 : List (S81)) (l0_2 : List Int) : Option (Int × (List (S81)) × List Int × List Int × Int) := (impl_ValidNetwork.f k a0_0 l0_1 l0_2).bind fun t365 => (if t365 = true then ((impl_Network_merged.f k [(⟨a0_0, l0_1, l0_2⟩ : S31)]).bind fun bt366 => (impl_MergeOf.l0 k (([] : List Int)) bt366.2.2.2 (bt366.2.2.2.length : Int) 0 bt366.1 bt366.2.1 bt366.2.2.1)) else (some (0, ([] : List (S81)), ([] : List Int), ([] : List Int), 1)))
theorem impl_MergeOf.mono_l : ∀ k, (∀ y0 y1 y2 y3 y4 y5 y6, LeO (impl_MergeOf.l0 k y0 y1 y2 y3 y4 y5 y6) (impl_MergeOf.l0 (k + 1) y0 y1 y2 y3 y4 y5 y6))
  | 0 => fun _ _ _ _ _ _ _ r h => by simp [impl_MergeOf.l0] at h
  | k + 1 => by
    have ih0 := impl_MergeOf.mono_l k
    · intro y0 y1 y2 y3 y4 y5 y6
      unfold impl_MergeOf.l0
      repeat' first | (with_reducible first | apply ih0 | apply impl_Network_merged.mono | apply impl_ValidNetwork.mono | exact LeO.refl _ | exact LeO.none _ | refine LeO.ite ?_ ?_ | refine LeO.bind ?_ (fun _ => ?_)) | apply ih0 | apply impl_Network_merged.mono | apply impl_ValidNetwork.mono | exact LeO.none _ | refine LeO.ite ?_ ?_ | refine LeO.bind ?_ (fun _ => ?_)
theorem impl_MergeOf.mono : ∀ a0 a1 a2 k, LeO (impl_MergeOf.f k a0 a1 a2) (impl_MergeOf.f (k + 1) a0 a1 a2) := by
 intro a0 a1 a2 k
 have ih0 := impl_MergeOf.mono_l k
 unfold impl_MergeOf.f
 repeat' first | (with_reducible first | apply ih0 | apply impl_Network_merged.mono | apply impl_ValidNetwork.mono | exact LeO.refl _ | exact LeO.none _ | refine LeO.ite ?_ ?_ | refine LeO.bind ?_ (fun _ => ?_)) | apply ih0 | apply impl_Network_merged.mono | apply impl_ValidNetwork.mono | exact LeO.none _ | refine LeO.ite ?_ ?_ | refine LeO.bind ?_ (fun _ => ?_)
set_option maxHeartbeats 8000000 in
set_option maxRecDepth 100000 in
theorem impl_MergeOf.calls (k : Nat) (a0_0 : Int) (A0_1 : Option Addr) (c0_1 : Nat) (l0_1 : List (S81)) (A0_2 : Option Addr) (c0_2 : Nat) (l0_2 : List Int) (r1 : Int) (r2 : List (S81)) (r3 : List Int) (r4 : List Int) (r5 : Int) (w : World) (hr0_1 : Kd.C k81 w A0_1 l0_1.length l0_1) (hc0_1 : l0_1.length ≤ c0_1) (hr0_2 : Kd.C (Kd.int .i16) w A0_2 l0_2.length l0_2) (hc0_2 : l0_2.length ≤ c0_2) (h : impl_MergeOf.f k a0_0 l0_1 l0_2 = some (r1, r2, r3, r4, r5)) :
    Calls Try.prog 68 #[.agg #[.int .i8 a0_0, .slice A0_1 l0_1.length c0_1, .slice A0_2 l0_2.length c0_2]] w fun e w' => ∃ v1_ v2_ v3_ : Value, e = .returned (.tuple #[.agg #[.int .i8 r1, v1_, v2_], v3_, .int .i64 r5]) ∧ Kd.R k81 81 w' w.heap.size (fun _ => True) v1_ r2 ∧ Kd.R (Kd.int .i16) 79 w' w.heap.size (fun _ => True) v2_ r3 ∧ Kd.R (Kd.int .i64) 2 w' w.heap.size (fun _ => True) v3_ r4 ∧ Below w.heap.size w w' := by
 have hu31 := Try.underlying31
 have HR0_1 := Aside0.mk hr0_1
 have HC0_1 := Aside0.mk hc0_1
 clear hr0_1 hc0_1
 have HR0_2 := Aside0.mk hr0_2
 have HC0_2 := Aside0.mk hc0_2
 clear hr0_2 hc0_2
 have HB := Aside0.mk (Below.refl w.heap.size w)
 have H : ((impl_ValidNetwork.f k a0_0 l0_1 l0_2).bind fun t365 => (if t365 = true then ((impl_Network_merged.f k [(⟨a0_0, l0_1, l0_2⟩ : S31)]).bind fun bt366 => (impl_MergeOf.l0 k (([] : List Int)) bt366.2.2.2 (bt366.2.2.2.length : Int) 0 bt366.1 bt366.2.1 bt366.2.2.1)) else (some (0, ([] : List (S81)), ([] : List Int), ([] : List Int), 1)))) = some (r1, r2, r3, r4, r5) := h
 clear h
 replace H := Option.bind_eq_some_iff.mp H
 obtain ⟨t365, A20, H⟩ := H
 replace H : (if t365 = true then ((impl_Network_merged.f k [(⟨a0_0, l0_1, l0_2⟩ : S31)]).bind fun bt366 => (impl_MergeOf.l0 k (([] : List Int)) bt366.2.2.2 (bt366.2.2.2.length : Int) 0 bt366.1 bt366.2.1 bt366.2.2.1)) else (some (0, ([] : List (S81)), ([] : List Int), ([] : List Int), 1))) = some (r1, r2, r3, r4, r5) := H
 have A2 := Aside0.mk A20
 clear A20
 by_cases c3 : t365 = true
 rotate_left
 ·replace c3 := Bool.eq_false_iff.mpr c3
  subst c3
  have H1 : (some (0, ([] : List (S81)), ([] : List Int), ([] : List Int), 1)) = some (r1, r2, r3, r4, r5) := by rw [if_neg (show ¬ (false = true) by decide)] at H; exact H
  clear H
  have H := H1
  clear H1
  simp only [Option.some.injEq, Prod.mk.injEq] at H
  obtain ⟨rfl, rfl, rfl, rfl, rfl⟩ := H
  go_enter Try.func68, Try.ntmps68
  go_wp2_with (first | ((with_reducible refine gate_dst (N := 1) rfl ?_); refine box_event ?hg (N := 1) ?hd (cs := #[.int .i8 a0_0, .slice A0_1 l0_1.length c0_1, .slice A0_2 l0_2.length c0_2]) (t := 31) ?hr ?_; (case hd => rfl); (case hg => rfl); (case hr => first | (go_simp; done) | (go_simp; rfl)); intro gb363 hg w30 hbox hb; have n_ : _ ∧ _ ∧ _ ∧ _ := ⟨zb HB hb, Aside0.mk (hbox), zg HB hg, zg HB hg⟩; clear HB; obtain ⟨HB, BK363, GW363, GE363⟩ := n_; clear hb hbox hg) | ((with_reducible refine gate_dst (N := 2) rfl ?_); refine box_event ?hg (N := 2) ?hd (cs := #[.int .i8 0, .slice none 0 0, .slice none 0 0]) (t := 31) ?hr ?_; (case hd => rfl); (case hg => rfl); (case hr => first | (go_simp; done) | (go_simp; rfl)); intro gb364 hg w31 hbox hb; have n_ : _ ∧ _ ∧ _ ∧ _ ∧ _ ∧ _ ∧ _ := ⟨zk BK363 hb, zbs hb, Aside0.mk (hbox), zg HB hg, zg HB hg, zn1 BK363 hg, zn2 BK363 hg⟩; clear BK363 HB; obtain ⟨BK363, HB, BK364, GW364, GE364, NB363_364, NB364_363⟩ := n_; clear hb hbox hg; have hnb32 := NB363_364.out; have hnc32 := NB364_363.out; obtain ⟨z33_0, z33_1, z33_2, y33_0, y33_1, y33_2⟩ := zB3 BK363) | ((with_reducible refine gate_callee (f := 27) rfl ?_); refine goesL_ (some 11) rfl rfl Try.func27 (by kernel_rfl) rfl #[.agg #[.int .i8 a0_0, .slice A0_1 l0_1.length c0_1, .slice A0_2 l0_2.length c0_2]] rfl (by (try simp only [List.map_toArray, List.map_cons, List.map_nil]); first | done | rfl | (simp only [List.length_drop, List.length_take]; rfl)) ?_; (with_reducible refine (impl_ValidNetwork.calls k a0_0 _ _ l0_1 _ _ l0_2 false _ ?side1 ?side2 ?side3 ?side4 A2.out).mono ?_); (case side1 => exact zcc HB HR0_1.out); (case side2 => exact HC0_1.out); (case side3 => exact zcc HB HR0_2.out); (case side4 => exact HC0_2.out); rintro e w34 ⟨rfl, hb⟩; refine ⟨_, rfl, ?_⟩; have n_ : _ ∧ _ ∧ _ := ⟨zk BK363 hb, zk BK364 hb, zbs hb⟩; clear BK363 BK364 HB; obtain ⟨BK363, BK364, HB⟩ := n_; (try clear hb); (try clear hb2); (try clear hk); (try clear hi); obtain ⟨z35_0, z35_1, z35_2, y35_0, y35_1, y35_2⟩ := zB3 BK364))
  refine bodyPost_ret (results_ctt rfl _ _ gb364 31 #[.int .i8 0, .slice none 0 0, .slice none 0 0] (0, 0) _ rfl (by (with_reducible repeat (first | refine blk_drewN ?_ _ | refine blk_drew ?_ | refine blk_alloc ?_ _)); refine blk_put (cs := #[.int .i8 0, .slice none 0 0, .slice none 0 0]) ?_ 2 _ rfl; (with_reducible repeat (first | refine blk_drewN ?_ _ | refine blk_drew ?_ | refine blk_alloc ?_ _)); refine blk_put (cs := #[.int .i8 0, .slice none 0 0, .slice none 0 0]) ?_ 1 _ rfl; (with_reducible repeat (first | refine blk_drewN ?_ _ | refine blk_drew ?_ | refine blk_alloc ?_ _)); refine blk_put (cs := #[.int .i8 0, .slice none 0 0, .slice none 0 0]) ?_ 0 _ rfl; (with_reducible repeat (first | refine blk_drewN ?_ _ | refine blk_drew ?_ | refine blk_alloc ?_ _)); exact BK364.out) Try.underlying31 rfl (by kernel_rfl)) rfl ?_
  exact ⟨_, _, _, by first | rfl | (simp [errW_none, errW_some] <;> rfl) | (simp [*, errW_none, errW_some] <;> rfl), by first | exact Kd.R_nil _ _ _ _ _ | exact Kd.N_nil _ _ _ _ _ | exact Kd.V_nil _ _ _ _ _ | exact Kd.Q_nil _ _ _ _ _ | exact Kd.S_nil _ _ _ _ _, by first | exact Kd.R_nil _ _ _ _ _ | exact Kd.N_nil _ _ _ _ _ | exact Kd.V_nil _ _ _ _ _ | exact Kd.Q_nil _ _ _ _ _ | exact Kd.S_nil _ _ _ _ _, by first | exact Kd.R_nil _ _ _ _ _ | exact Kd.N_nil _ _ _ _ _ | exact Kd.V_nil _ _ _ _ _ | exact Kd.Q_nil _ _ _ _ _ | exact Kd.S_nil _ _ _ _ _, by repeat (first | (with_reducible first | exact HB.out | apply below_alloc | apply pw_below_drewN | apply below_drew1 | refine below_set ?_ GE363.out | refine below_set ?_ GE364.out) | exact HB.out)⟩
 subst c3
 have H1 : ((impl_Network_merged.f k [(⟨a0_0, l0_1, l0_2⟩ : S31)]).bind fun bt366 => (impl_MergeOf.l0 k (([] : List Int)) bt366.2.2.2 (bt366.2.2.2.length : Int) 0 bt366.1 bt366.2.1 bt366.2.2.1)) = some (r1, r2, r3, r4, r5) := by rw [if_pos rfl] at H; exact H
 clear H
 have H := H1
 clear H1
 replace H := Option.bind_eq_some_iff.mp H
 obtain ⟨⟨t366, t367, t370, t373⟩, A40, H⟩ := H
 replace H : (impl_MergeOf.l0 k (([] : List Int)) t373 (t373.length : Int) 0 t366 t367 t370) = some (r1, r2, r3, r4, r5) := H
 have A4 := Aside0.mk A40
 clear A40
 obtain ⟨y377, hy377⟩ : ∃ y_ : List Int, y_ = (([] : List Int)) := ⟨_, rfl⟩
 replace H : (impl_MergeOf.l0 k y377 t373 (t373.length : Int) 0 t366 t367 t370) = some (r1, r2, r3, r4, r5) := by first | (rw [hy377]; with_reducible exact H) | (have H2_ := (Option.bind_some _ _).symm.trans H; rw [hy377]; with_reducible exact H2_) | (have H2_ := (Option.bind_some _ _).symm.trans H; with_reducible exact H2_) | with_reducible exact H | (rw [hy377]; exact H) | exact H
 have Ny377 := Aside0.mk hy377
 clear hy377
 have H' := Aside0.mk H
 clear H
 go_enter Try.func68, Try.ntmps68
 go_wp2_with (first | ((with_reducible refine gate_dst (N := 1) rfl ?_); refine box_event ?hg (N := 1) ?hd (cs := #[.int .i8 a0_0, .slice A0_1 l0_1.length c0_1, .slice A0_2 l0_2.length c0_2]) (t := 31) ?hr ?_; (case hd => rfl); (case hg => rfl); (case hr => first | (go_simp; done) | (go_simp; rfl)); intro gb363 hg w5 hbox hb; have n_ : _ ∧ _ ∧ _ ∧ _ := ⟨zb HB hb, Aside0.mk (hbox), zg HB hg, zg HB hg⟩; clear HB; obtain ⟨HB, BK363, GW363, GE363⟩ := n_; clear hb hbox hg) | ((with_reducible refine gate_dst (N := 2) rfl ?_); refine box_event ?hg (N := 2) ?hd (cs := #[.int .i8 0, .slice none 0 0, .slice none 0 0]) (t := 31) ?hr ?_; (case hd => rfl); (case hg => rfl); (case hr => first | (go_simp; done) | (go_simp; rfl)); intro gb364 hg w6 hbox hb; have n_ : _ ∧ _ ∧ _ ∧ _ ∧ _ ∧ _ ∧ _ := ⟨zk BK363 hb, zbs hb, Aside0.mk (hbox), zg HB hg, zg HB hg, zn1 BK363 hg, zn2 BK363 hg⟩; clear BK363 HB; obtain ⟨BK363, HB, BK364, GW364, GE364, NB363_364, NB364_363⟩ := n_; clear hb hbox hg; have hnb7 := NB363_364.out; have hnc7 := NB364_363.out; obtain ⟨z8_0, z8_1, z8_2, y8_0, y8_1, y8_2⟩ := zB3 BK363) | ((with_reducible refine gate_callee (f := 27) rfl ?_); refine goesL_ (some 11) rfl rfl Try.func27 (by kernel_rfl) rfl #[.agg #[.int .i8 a0_0, .slice A0_1 l0_1.length c0_1, .slice A0_2 l0_2.length c0_2]] rfl (by (try simp only [List.map_toArray, List.map_cons, List.map_nil]); first | done | rfl | (simp only [List.length_drop, List.length_take]; rfl)) ?_; (with_reducible refine (impl_ValidNetwork.calls k a0_0 _ _ l0_1 _ _ l0_2 true _ ?side1 ?side2 ?side3 ?side4 A2.out).mono ?_); (case side1 => exact zcc HB HR0_1.out); (case side2 => exact HC0_1.out); (case side3 => exact zcc HB HR0_2.out); (case side4 => exact HC0_2.out); rintro e w9 ⟨rfl, hb⟩; refine ⟨_, rfl, ?_⟩; have n_ : _ ∧ _ ∧ _ := ⟨zk BK363 hb, zk BK364 hb, zbs hb⟩; clear BK363 BK364 HB; obtain ⟨BK363, BK364, HB⟩ := n_; (try clear hb); (try clear hb2); (try clear hk); (try clear hi)) | ((with_reducible refine gate_callee (f := 122) rfl ?_); refine goesL_ (some 15) rfl rfl Try.func122 (by kernel_rfl) rfl #[.pointer (some ⟨gb363, 0, none⟩)] rfl (by (try simp only [List.map_toArray, List.map_cons, List.map_nil]); first | done | rfl | (simp only [List.length_drop, List.length_take]; rfl)) ?_; (with_reducible refine (impl_Network_merged.calls k _ [(⟨a0_0, l0_1, l0_2⟩ : S31)] t366 t367 t370 t373 _ ?side1 A4.out).mono ?_); (case side1 => refine ro_of_blk (T := 31) (cs := #[.int .i8 a0_0, .slice A0_1 l0_1.length c0_1, .slice A0_2 l0_2.length c0_2]) (zh BK363).out ?_; exact k31_mk _ (⟨a0_0, l0_1, l0_2⟩ : S31) (by exact HC0_1.out) (by exact zcc HB HR0_1.out) (by exact HC0_2.out) (by exact zcc HB HR0_2.out)); rintro e w10 ⟨v368, v371, v374, rfl, ho0, ho1, ho2, hb⟩; refine ⟨_, rfl, ?_⟩; have n_ : _ ∧ _ ∧ _ ∧ _ ∧ _ ∧ _ := ⟨Aside0.mk (Kd.R_lower ho0 (zz HB)), Aside0.mk (Kd.R_lower ho1 (zz HB)), Aside0.mk (Kd.R_lower ho2 (zz HB)), zk BK363 hb, zk BK364 hb, zbs hb⟩; clear BK363 BK364 HB; obtain ⟨HO369, HO372, HO375, BK363, BK364, HB⟩ := n_; (try clear hb); (try clear hb2); (try clear hk); (try clear hi); (try clear ho0); (try clear ho1); (try clear ho2)) | ((with_reducible refine gate_dst (N := 5) rfl ?_); refine box_event ?hg (N := 5) ?hd (cs := #[.int .i8 0, .slice none 0 0, .slice none 0 0]) (t := 31) ?hr ?_; (case hd => rfl); (case hg => rfl); (case hr => first | (go_simp; done) | (go_simp; rfl)); intro gb376 hg w11 hbox hb; have n_ : _ ∧ _ ∧ _ ∧ _ ∧ _ ∧ _ ∧ _ ∧ _ ∧ _ ∧ _ ∧ _ ∧ _ ∧ _ := ⟨zr HO369 hb, zr HO372 hb, zr HO375 hb, zk BK363 hb, zk BK364 hb, zbs hb, Aside0.mk (hbox), zg HB hg, zg HB hg, zn1 BK363 hg, zn2 BK363 hg, zn1 BK364 hg, zn2 BK364 hg⟩; clear HO369 HO372 HO375 BK363 BK364 HB; obtain ⟨HO369, HO372, HO375, BK363, BK364, HB, BK376, GW376, GE376, NB363_376, NB376_363, NB364_376, NB376_364⟩ := n_; clear hb hbox hg; have hnb12 := NB376_363.out; have hnc12 := NB363_376.out; have hnb13 := NB376_364.out; have hnc13 := NB364_376.out; obtain ⟨z14_0, z14_1, z14_2, y14_0, y14_1, y14_2⟩ := zB3 BK376; obtain ⟨Ao15, co15, eo15⟩ := Kd.R_slice HO369.out; subst eo15; obtain ⟨Ao16, co16, eo16⟩ := Kd.R_slice HO372.out; subst eo16) | ((with_reducible refine gate_dst (N := 18) rfl ?_); refine Kd.R_lit (Kd.int .i64) _ 2 ?hg (N := 18) ?hd (xs := ([] : List Int)) (inner := []) (ok := fun _ => True) (okp := fun _ => True) ?hr ?hp (fun _ hk => hk) trivial (Below.refl _ _) (Nat.le_refl _) (by simp) ?_; (case hd => rfl); (case hg => rfl); (case hr => first | (go_simp; done) | (go_simp; rfl)); (case hp => exact (Reps.none _ _)); intro v378 w17 ho18 hb hg_ hnew_; clear hg_ hnew_; (first | rw [← Ny377.out] at ho18 | (simp only [Int.reduceToNat] at ho18; rw [← Ny377.out] at ho18)); have n_ : _ ∧ _ ∧ _ ∧ _ ∧ _ ∧ _ ∧ _ ∧ _ := ⟨zsb HO369 BK376 hb, zsb HO372 BK376 hb, zsb HO375 BK376 hb, Aside0.mk (Kd.R_lower ho18 (zz HB)), zfb BK363 NB363_376 hb, zfb BK364 NB364_376 hb, Aside0.mk (blk_below (g := gb376) (o := .cells #[.int .i8 t366, .slice Ao15 t367.length co15, .slice Ao16 t370.length co16] 31 (0, 0)) (by (with_reducible repeat (first | refine blk_drewN ?_ _ | refine blk_drew ?_ | refine blk_alloc ?_ _)); refine blk_put (cs := #[.int .i8 t366, .slice Ao15 t367.length co15, .slice none 0 0]) ?_ 2 _ rfl; (with_reducible repeat (first | refine blk_drewN ?_ _ | refine blk_drew ?_ | refine blk_alloc ?_ _)); refine blk_put (cs := #[.int .i8 t366, .slice none 0 0, .slice none 0 0]) ?_ 1 _ rfl; (with_reducible repeat (first | refine blk_drewN ?_ _ | refine blk_drew ?_ | refine blk_alloc ?_ _)); refine blk_put (cs := #[.int .i8 0, .slice none 0 0, .slice none 0 0]) ?_ 0 _ rfl; (with_reducible repeat (first | refine blk_drewN ?_ _ | refine blk_drew ?_ | refine blk_alloc ?_ _)); exact BK376.out) hb), zbs hb⟩; clear HO369 HO372 HO375 BK363 BK364 BK376 HB; obtain ⟨HO369, HO372, HO375, HO379, BK363, BK364, BK376, HB⟩ := n_; clear hb ho18; obtain ⟨Ao19, co19, eo19⟩ := Kd.R_slice HO375.out; subst eo19))
 go_loopg [7, 21] k (fun kq v7 v21 w' => ∃ (x7_1 : List Int) (x21_1 : Int), v21 = .int .i64 x21_1 ∧ Aside0 (impl_MergeOf.l0 kq x7_1 t373 (t373.length : Int) x21_1 t366 t367 t370 = some (r1, r2, r3, r4, r5)) ∧ Aside0 (kq ≤ k) ∧ Aside0 (Kd.R (Kd.int .i64) 2 w' w.heap.size (fun _ => True) v7 x7_1) ∧ Aside0 (Kd.R (Kd.int .i16) 79 w' w.heap.size (fun k_ => some k_ ≠ ((.slice Ao16 t370.length co16) : Value).ownBlock) (.slice Ao19 t373.length co19) t373) ∧ Aside0 (Kd.R k81 81 w' w.heap.size (fun _ => True) (.slice Ao15 t367.length co15) t367) ∧ Aside0 (Kd.R (Kd.int .i16) 79 w' w.heap.size (fun k_ => some k_ ≠ ((.slice Ao19 t373.length co19) : Value).ownBlock) (.slice Ao16 t370.length co16) t370) ∧ Aside0 (w'.heap[gb363]? = some (.cells #[.int .i8 a0_0, (.slice A0_1 l0_1.length c0_1), (.slice A0_2 l0_2.length c0_2)] 31 (0, 0))) ∧ Aside0 (w'.heap[gb364]? = some (.cells #[.int .i8 0, (.slice none 0 0), (.slice none 0 0)] 31 (0, 0))) ∧ Aside0 (w'.heap[gb376]? = some (.cells #[.int .i8 t366, (.slice Ao15 t367.length co15), (.slice Ao16 t370.length co16)] 31 (0, 0))) ∧ Aside0 (Below w.heap.size w w'))
 case atStart => exact ⟨(y377), (0), (by first | rfl | (simp; done) | (simp [*]; done) | (exact congrArg (Value.int .i64) (wrap_eq (by omega)))), H', ⟨Nat.le_refl _⟩, ze HO379, ze HO375, ze HO369, ze HO372, zh BK363, zh BK364, zh BK376, zba⟩
 clear H'
 try clear c1
 try clear c2
 try clear p2
 try clear c3
 try clear c6
 try clear c7
 try clear c12
 try clear c13
 try clear z14_0 z14_1 z14_2
 try clear z8_0 z8_1 z8_2
 try clear y14_0
 try clear y14_1
 try clear y14_2
 try clear y8_0
 try clear y8_1
 try clear y8_2
 obtain ⟨x7_1, x21_1, rfl, HA, HK1, HO_7, HO_19, HO_377001, HO_377002, BK363, BK364, BK376, HB⟩ := hrel
 cases gk with
 | zero => exact absurd HA.out (by simp [impl_MergeOf.l0])
 | succ k1 => ?_
 have H := HA.out
 clear HA
 simp only [impl_MergeOf.l0] at H
 by_cases c20 : x21_1 < (t373.length : Int)
 rotate_left
 ·rw [if_neg c20] at H
  have c20b0 : decide (x21_1 < (t373.length : Int)) = false := decide_eq_false c20
  clear c20
  simp only [Option.some.injEq, Prod.mk.injEq] at H
  obtain ⟨rfl, rfl, rfl, rfl, rfl⟩ := H
  have hnb25 := NB376_363.out
  have hnc25 := NB363_376.out
  have hnb26 := NB376_364.out
  have hnc26 := NB364_376.out
  obtain ⟨z27_0, z27_1, z27_2, y27_0, y27_1, y27_2⟩ := zB3 BK376
  have hnb28 := NB364_363.out
  have hnc28 := NB363_364.out
  obtain ⟨z29_0, z29_1, z29_2, y29_0, y29_1, y29_2⟩ := zB3 BK364
  go_wp2
  refine bodyPost_ret (results_ctt rfl _ _ gb364 31 #[.int .i8 t366, .slice Ao15 t367.length co15, .slice Ao16 t370.length co16] (0, 0) _ rfl (by (with_reducible repeat (first | refine blk_drewN ?_ _ | refine blk_drew ?_ | refine blk_alloc ?_ _)); refine blk_put (cs := #[.int .i8 t366, .slice Ao15 t367.length co15, .slice none 0 0]) ?_ 2 _ rfl; (with_reducible repeat (first | refine blk_drewN ?_ _ | refine blk_drew ?_ | refine blk_alloc ?_ _)); refine blk_put (cs := #[.int .i8 t366, .slice none 0 0, .slice none 0 0]) ?_ 1 _ rfl; (with_reducible repeat (first | refine blk_drewN ?_ _ | refine blk_drew ?_ | refine blk_alloc ?_ _)); refine blk_put (cs := #[.int .i8 0, .slice none 0 0, .slice none 0 0]) ?_ 0 _ rfl; (with_reducible repeat (first | refine blk_drewN ?_ _ | refine blk_drew ?_ | refine blk_alloc ?_ _)); exact BK364.out) Try.underlying31 rfl (by kernel_rfl)) rfl ?_
  exact ⟨_, _, _, by first | rfl | (simp [errW_none, errW_some] <;> rfl) | (simp [*, errW_none, errW_some] <;> rfl), by (with_reducible repeat (first | apply Kd.R_alloc | apply Kd.R_drewN | apply Kd.R_drew)); exact Kd.R_mono (Kd.R_far (p := ⟨gb364, 2, none⟩) (Kd.R_far (p := ⟨gb364, 1, none⟩) (Kd.R_far (p := ⟨gb364, 0, none⟩) (Kd.R_types HO_377001.out BK364.out (by decide)) (fun _ hk => hk.2) (.int .i8 t366)) (fun _ hk => hk.2) (.slice Ao15 t367.length co15)) (fun _ hk => hk.2) (.slice Ao16 t370.length co16)) (fun _ hk => trivial), by (with_reducible repeat (first | apply Kd.R_alloc | apply Kd.R_drewN | apply Kd.R_drew)); exact Kd.R_mono (Kd.R_far (p := ⟨gb364, 2, none⟩) (Kd.R_far (p := ⟨gb364, 1, none⟩) (Kd.R_far (p := ⟨gb364, 0, none⟩) (Kd.R_types HO_377002.out BK364.out (by decide)) (fun _ hk => hk.2) (.int .i8 t366)) (fun _ hk => hk.2) (.slice Ao15 t367.length co15)) (fun _ hk => hk.2) (.slice Ao16 t370.length co16)) (fun _ hk => trivial), by (with_reducible repeat (first | apply Kd.R_alloc | apply Kd.R_drewN | apply Kd.R_drew)); exact Kd.R_mono (Kd.R_far (p := ⟨gb364, 2, none⟩) (Kd.R_far (p := ⟨gb364, 1, none⟩) (Kd.R_far (p := ⟨gb364, 0, none⟩) (Kd.R_types HO_7.out BK364.out (by decide)) (fun _ hk => hk.2) (.int .i8 t366)) (fun _ hk => hk.2) (.slice Ao15 t367.length co15)) (fun _ hk => hk.2) (.slice Ao16 t370.length co16)) (fun _ hk => trivial), by repeat (first | (with_reducible first | exact HB.out | apply below_alloc | apply pw_below_drewN | apply below_drew1 | refine below_set ?_ GE363.out | refine below_set ?_ GE364.out | refine below_set ?_ GE376.out) | exact HB.out)⟩
 rw [if_pos c20] at H
 have c20b0 : decide (x21_1 < (t373.length : Int)) = true := decide_eq_true c20
 clear c20
 by_cases c21 : 0 ≤ x21_1
 rotate_left
 ·rw [if_neg c21] at H
  exact absurd H (by simp)
 rw [if_pos c21] at H
 have c21b0 : decide (0 ≤ x21_1) = true := decide_eq_true c21
 clear c21
 by_cases c22 : x21_1 < (t373.length : Int)
 rotate_left
 ·rw [if_neg c22] at H
  exact absurd H (by simp)
 rw [if_pos c22] at H
 have c22b0 : decide (x21_1 < (t373.length : Int)) = true := decide_eq_true c22
 clear c22
 by_cases c23 : x7_1.length < 17592186044416
 rotate_left
 ·rw [if_neg c23] at H
  exact absurd H (by simp)
 rw [if_pos c23] at H
 have LMc23 := Aside0.mk c23
 clear c23
 obtain ⟨y381, hy381⟩ : ∃ y_ : List Int, y_ = (x7_1 ++ [wrap64 (rd t373 x21_1)]) := ⟨_, rfl⟩
 replace H : (impl_MergeOf.l0 k1 y381 t373 (t373.length : Int) (wrap64 (x21_1 + 1)) t366 t367 t370) = some (r1, r2, r3, r4, r5) := by first | (rw [hy381]; with_reducible exact H) | (have H2_ := (Option.bind_some _ _).symm.trans H; rw [hy381]; with_reducible exact H2_) | (have H2_ := (Option.bind_some _ _).symm.trans H; with_reducible exact H2_) | with_reducible exact H | (rw [hy381]; exact H) | exact H
 have Ny381 := Aside0.mk hy381
 clear hy381
 have H' := Aside0.mk H
 clear H
 have p380 : 0 ≤ (x21_1 : Int) := of_decide_eq_true (by first | (with_reducible assumption) | assumption)
 have q380 : x21_1 < (t373.length : Int) := of_decide_eq_true (by first | (with_reducible assumption) | assumption)
 obtain ⟨ad380, e380, hx380_0⟩ := Kd.at_int (Kd.R_reads' HO_19.out).2.2 x21_1 p380 q380
 cases e380
 replace p380 := eq_true p380
 replace q380 := eq_true q380
 go_wp2_with (first | ((with_reducible refine gate_builtin (b := .append) (xs := #[.tmp 25, .tmp 28]) rfl ?_); at_builtin; refine Kd.R_append (Kd.int .i64) (w0 := w) w.heap.size rfl (.tmp 25) (.tmp 28) 47 2 (.int .i64 0) 8 rfl Try.underlying47 info2 rfl (by decide) (by omega) u7 x7_1 (wrap64 (rd t373 x21_1)) [.int .i64 (wrap64 (rd t373 x21_1))] (fun _ => True) (fun _ => False) rfl rfl ?aP (fun _ hk => hk.elim) ?aF ?aO ?aB ?aS ?aL ?_; (case aP => exact rfl); (case aB => exact (by repeat (first | (with_reducible first | exact HB.out | apply below_alloc | apply pw_below_drewN | apply below_drew1 | refine below_set ?_ GE363.out | refine below_set ?_ GE364.out | refine below_set ?_ GE376.out) | exact HB.out))); (case aF => exact (fun _ _ => trivial)); (case aO => exact (ze HO_7).out); (case aS => exact (zz HB)); (case aL => have := LMc23.out; omega); intro v382 w24 ho hb hg hat; rw [← Ny381.out] at ho; have n_ : _ ∧ _ ∧ _ ∧ _ ∧ _ ∧ _ ∧ _ ∧ _ := ⟨Aside0.mk (Kd.R_over' (ze HO_19).out (Kd.R_typed (ze HO_7).out) (by decide) hg), Aside0.mk (Kd.R_over' (ze HO_377001).out (Kd.R_typed (ze HO_7).out) (by decide) hg), Aside0.mk (Kd.R_over' (ze HO_377002).out (Kd.R_typed (ze HO_7).out) (by decide) hg), Aside0.mk (blk_grown (g := gb363) (o := .cells #[.int .i8 a0_0, .slice A0_1 l0_1.length c0_1, .slice A0_2 l0_2.length c0_2] 31 (0, 0)) (zh BK363).out hg (Kd.R_ne HO_7.out BK363.out (by decide))), Aside0.mk (blk_grown (g := gb364) (o := .cells #[.int .i8 0, .slice none 0 0, .slice none 0 0] 31 (0, 0)) (zh BK364).out hg (Kd.R_ne HO_7.out BK364.out (by decide))), Aside0.mk (blk_grown (g := gb376) (o := .cells #[.int .i8 t366, .slice Ao15 t367.length co15, .slice Ao16 t370.length co16] 31 (0, 0)) (zh BK376).out hg (Kd.R_ne HO_7.out BK376.out (by decide))), Aside0.mk (hb), Aside0.mk (ho)⟩; clear HO_19 HO_377001 HO_377002 BK363 BK364 BK376 HB HO_7; obtain ⟨HO_19, HO_377001, HO_377002, BK363, BK364, BK376, HB, HO383⟩ := n_; clear ho hb hg hat))
 go_roundg k1
 case measure => have := HK1.out; omega
 case rel => exact ⟨(y381), (wrap64 (x21_1 + 1)), (by first | rfl | (simp; done) | (simp [*]; done) | (exact congrArg (Value.int .i64) (wrap_eq (by omega)))), H', ⟨by have := HK1.out; omega⟩, ze HO383, ze HO_19, ze HO_377001, ze HO_377002, zh BK363, zh BK364, zh BK376, zba⟩
end Go.Proofs.Ytmpmanfoiocfgaa.PFnExactMergeOf
