-- WRITTEN by xprint.py, a program of this session's. Not trusted: Lean checks it.
-- packed by pack.py
import Derived.Test.YtkflenibdijnaaaPFnAddersx0
import Derived.Test.YtkflenibdijnaaaPFnAddersx2
import Derived.Test.YtkflenibdijnaaaPFnAddersx3
import Derived.Test.YtkflenibdijnaaaPFnAddersx6
import Derived.Test.YtkflenibdijnaaaPFnAddersx7
import Derived.Test.YtkflenibdijnaaaTFnAddersa
namespace Go.Proofs.Ytkflenibdijnaaa.PFnAdders
open Go.RowKit Go.Proofs.YtkflenibdijnaaaW.PrintWords Go.Proofs.YtkflenibdijnaaaW.PrintLast Go.Proofs.YtkflenibdijnaaaW.PrintMore Go.Proofs.YtkflenibdijnaaaX
attribute [local go_sem] max2_int min2_int max_two min_two max_three min_three max_four min_four   -- for this text's walks alone
set_option maxRecDepth 100000
set_option linter.unusedVariables false
set_option linter.unusedSimpArgs false

def impl_SimplifyNetwork.f (k : Nat) (a0_0 : Int) (l0_1 : List (S61)) (l0_2 : List Int) : Option (Int × (List (S61)) × List Int × Int) := (impl_ValidNetwork.f k a0_0 l0_1 l0_2).bind fun t255 => (if t255 = true then ((impl_Network_merged.f k [(⟨a0_0, l0_1, l0_2⟩ : S29)]).bind fun bt256 => ((impl_Network_trimmed.f k [(⟨bt256.1, bt256.2.1, bt256.2.2.1⟩ : S29)]).bind fun bt267 => (some (bt267.1, bt267.2.1, bt267.2.2, 0)))) else (some (0, ([] : List (S61)), ([] : List Int), 1)))
theorem impl_SimplifyNetwork.mono : ∀ a0 a1 a2 k, LeO (impl_SimplifyNetwork.f k a0 a1 a2) (impl_SimplifyNetwork.f (k + 1) a0 a1 a2) := by
 intro a0 a1 a2 k
 unfold impl_SimplifyNetwork.f
 repeat' first | (with_reducible first | apply impl_Network_merged.mono | apply impl_Network_trimmed.mono | apply impl_ValidNetwork.mono | exact LeO.refl _ | exact LeO.none _ | refine LeO.ite ?_ ?_ | refine LeO.bind ?_ (fun _ => ?_)) | apply impl_Network_merged.mono | apply impl_Network_trimmed.mono | apply impl_ValidNetwork.mono | exact LeO.none _ | refine LeO.ite ?_ ?_ | refine LeO.bind ?_ (fun _ => ?_)
set_option maxHeartbeats 8000000 in
theorem impl_SimplifyNetwork.calls (k : Nat) (a0_0 : Int) (A0_1 : Option Addr) (c0_1 : Nat) (l0_1 : List (S61)) (A0_2 : Option Addr) (c0_2 : Nat) (l0_2 : List Int) (r1 : Int) (r2 : List (S61)) (r3 : List Int) (r4 : Int) (w : World) (hr0_1 : Kd.C k61 w A0_1 l0_1.length l0_1) (hc0_1 : l0_1.length ≤ c0_1) (hr0_2 : Kd.C (Kd.int .i16) w A0_2 l0_2.length l0_2) (hc0_2 : l0_2.length ≤ c0_2) (h : impl_SimplifyNetwork.f k a0_0 l0_1 l0_2 = some (r1, r2, r3, r4)) :
    Calls Try.prog 22 #[.agg #[.int .i8 a0_0, .slice A0_1 l0_1.length c0_1, .slice A0_2 l0_2.length c0_2]] w fun e w' => ∃ v1_ v2_ : Value, e = .returned (.tuple #[.agg #[.int .i8 r1, v1_, v2_], .int .i64 r4]) ∧ Kd.R k61 61 w' w.heap.size (fun _ => True) v1_ r2 ∧ Kd.R (Kd.int .i16) 54 w' w.heap.size (fun _ => True) v2_ r3 ∧ Below w.heap.size w w' := by
 have hu29 := Try.underlying29
 have HR0_1 := Aside0.mk hr0_1
 have HC0_1 := Aside0.mk hc0_1
 clear hr0_1 hc0_1
 have HR0_2 := Aside0.mk hr0_2
 have HC0_2 := Aside0.mk hc0_2
 clear hr0_2 hc0_2
 have HB := Aside0.mk (Below.refl w.heap.size w)
 have H : ((impl_ValidNetwork.f k a0_0 l0_1 l0_2).bind fun t255 => (if t255 = true then ((impl_Network_merged.f k [(⟨a0_0, l0_1, l0_2⟩ : S29)]).bind fun bt256 => ((impl_Network_trimmed.f k [(⟨bt256.1, bt256.2.1, bt256.2.2.1⟩ : S29)]).bind fun bt267 => (some (bt267.1, bt267.2.1, bt267.2.2, 0)))) else (some (0, ([] : List (S61)), ([] : List Int), 1)))) = some (r1, r2, r3, r4) := h
 clear h
 replace H := zob H
 obtain ⟨t255, A20, H⟩ := H
 replace H : (if t255 = true then ((impl_Network_merged.f k [(⟨a0_0, l0_1, l0_2⟩ : S29)]).bind fun bt256 => ((impl_Network_trimmed.f k [(⟨bt256.1, bt256.2.1, bt256.2.2.1⟩ : S29)]).bind fun bt267 => (some (bt267.1, bt267.2.1, bt267.2.2, 0)))) else (some (0, ([] : List (S61)), ([] : List Int), 1))) = some (r1, r2, r3, r4) := H
 have A2 := Aside0.mk A20
 clear A20
 by_cases c3 : t255 = true
 rotate_left
 ·replace c3 := Bool.eq_false_iff.mpr c3
  subst c3
  have H1 : (some (0, ([] : List (S61)), ([] : List Int), 1)) = some (r1, r2, r3, r4) := by rw [if_neg (show ¬ (false = true) by decide)] at H; exact H
  clear H
  have H := H1
  clear H1
  simp only [Option.some.injEq, Prod.mk.injEq] at H
  obtain ⟨rfl, rfl, rfl, rfl⟩ := H
  go_enter Try.func22, Try.ntmps22
  go_wp2_with (first | ((with_reducible refine gate_dst (N := 1) rfl ?_); refine zbx 1 #[.int .i8 a0_0, .slice A0_1 l0_1.length c0_1, .slice A0_2 l0_2.length c0_2] 29 ?_; intro gb253 hg w22 hbox hb; have n_ : _ ∧ _ ∧ _ ∧ _ := ⟨zb HB hb, Aside0.mk (hbox), zg HB hg, zg HB hg⟩; clear HB; obtain ⟨HB, BK253, GW253, GE253⟩ := n_; clear hb hbox hg) | ((with_reducible refine gate_dst (N := 2) rfl ?_); refine zbx 2 #[.int .i8 0, .slice none 0 0, .slice none 0 0] 29 ?_; intro gb254 hg w23 hbox hb; have n_ : _ ∧ _ ∧ _ ∧ _ ∧ _ ∧ _ ∧ _ := ⟨zk BK253 hb, zbs hb, Aside0.mk (hbox), zg HB hg, zg HB hg, zn1 BK253 hg, zn2 BK253 hg⟩; clear BK253 HB; obtain ⟨BK253, HB, BK254, GW254, GE254, NB253_254, NB254_253⟩ := n_; clear hb hbox hg; have hnb24 := NB253_254.out; have hnc24 := NB254_253.out; obtain ⟨z25_0, z25_1, z25_2, y25_0, y25_1, y25_2⟩ := zB3 BK253) | ((with_reducible refine gate_callee (f := 29) rfl ?_); refine goesL_ (some 7) rfl rfl Try.func29 (by kernel_rfl) rfl #[.agg #[.int .i8 a0_0, .slice A0_1 l0_1.length c0_1, .slice A0_2 l0_2.length c0_2]] rfl zm ?_; (with_reducible refine (impl_ValidNetwork.calls k a0_0 _ _ l0_1 _ _ l0_2 false _ ?side1 ?side2 ?side3 ?side4 A2.out).mono ?_); (case side1 => exact zcc HB HR0_1.out); (case side2 => exact HC0_1.out); (case side3 => exact zcc HB HR0_2.out); (case side4 => exact HC0_2.out); rintro e w26 ⟨rfl, hb⟩; refine ⟨_, rfl, ?_⟩; have n_ : _ ∧ _ ∧ _ := ⟨zk BK253 hb, zk BK254 hb, zbs hb⟩; clear BK253 BK254 HB; obtain ⟨BK253, BK254, HB⟩ := n_; (try clear hb); (try clear hb2); (try clear hk); (try clear hi); obtain ⟨z27_0, z27_1, z27_2, y27_0, y27_1, y27_2⟩ := zB3 BK254))
  refine bodyPost_ret (results_ct rfl _ _ gb254 29 #[.int .i8 0, .slice none 0 0, .slice none 0 0] (0, 0) _ rfl (zp BK254) Try.underlying29 rfl (by kernel_rfl)) rfl ?_
  exact ⟨_, _, zv, by first | exact Kd.R_nil _ _ _ _ _ | exact Kd.N_nil _ _ _ _ _ | exact Kd.V_nil _ _ _ _ _ | exact Kd.Q_nil _ _ _ _ _ | exact Kd.S_nil _ _ _ _ _, by first | exact Kd.R_nil _ _ _ _ _ | exact Kd.N_nil _ _ _ _ _ | exact Kd.V_nil _ _ _ _ _ | exact Kd.Q_nil _ _ _ _ _ | exact Kd.S_nil _ _ _ _ _, zbo⟩
 subst c3
 have H1 : ((impl_Network_merged.f k [(⟨a0_0, l0_1, l0_2⟩ : S29)]).bind fun bt256 => ((impl_Network_trimmed.f k [(⟨bt256.1, bt256.2.1, bt256.2.2.1⟩ : S29)]).bind fun bt267 => (some (bt267.1, bt267.2.1, bt267.2.2, 0)))) = some (r1, r2, r3, r4) := by rw [if_pos rfl] at H; exact H
 clear H
 have H := H1
 clear H1
 replace H := zob H
 obtain ⟨⟨t256, t257, t260, t263⟩, A40, H⟩ := H
 replace H : ((impl_Network_trimmed.f k [(⟨t256, t257, t260⟩ : S29)]).bind fun bt267 => (some (bt267.1, bt267.2.1, bt267.2.2, 0))) = some (r1, r2, r3, r4) := H
 have A4 := Aside0.mk A40
 clear A40
 replace H := zob H
 obtain ⟨⟨t267, t268, t271⟩, A50, H⟩ := H
 replace H : (some (t267, t268, t271, 0)) = some (r1, r2, r3, r4) := H
 have A5 := Aside0.mk A50
 clear A50
 simp only [Option.some.injEq, Prod.mk.injEq] at H
 obtain ⟨rfl, rfl, rfl, rfl⟩ := H
 go_enter Try.func22, Try.ntmps22
 go_wp2_with (first | ((with_reducible refine gate_dst (N := 1) rfl ?_); refine zbx 1 #[.int .i8 a0_0, .slice A0_1 l0_1.length c0_1, .slice A0_2 l0_2.length c0_2] 29 ?_; intro gb253 hg w6 hbox hb; have n_ : _ ∧ _ ∧ _ ∧ _ := ⟨zb HB hb, Aside0.mk (hbox), zg HB hg, zg HB hg⟩; clear HB; obtain ⟨HB, BK253, GW253, GE253⟩ := n_; clear hb hbox hg) | ((with_reducible refine gate_dst (N := 2) rfl ?_); refine zbx 2 #[.int .i8 0, .slice none 0 0, .slice none 0 0] 29 ?_; intro gb254 hg w7 hbox hb; have n_ : _ ∧ _ ∧ _ ∧ _ ∧ _ ∧ _ ∧ _ := ⟨zk BK253 hb, zbs hb, Aside0.mk (hbox), zg HB hg, zg HB hg, zn1 BK253 hg, zn2 BK253 hg⟩; clear BK253 HB; obtain ⟨BK253, HB, BK254, GW254, GE254, NB253_254, NB254_253⟩ := n_; clear hb hbox hg; have hnb8 := NB253_254.out; have hnc8 := NB254_253.out; obtain ⟨z9_0, z9_1, z9_2, y9_0, y9_1, y9_2⟩ := zB3 BK253) | ((with_reducible refine gate_callee (f := 29) rfl ?_); refine goesL_ (some 7) rfl rfl Try.func29 (by kernel_rfl) rfl #[.agg #[.int .i8 a0_0, .slice A0_1 l0_1.length c0_1, .slice A0_2 l0_2.length c0_2]] rfl zm ?_; (with_reducible refine (impl_ValidNetwork.calls k a0_0 _ _ l0_1 _ _ l0_2 true _ ?side1 ?side2 ?side3 ?side4 A2.out).mono ?_); (case side1 => exact zcc HB HR0_1.out); (case side2 => exact HC0_1.out); (case side3 => exact zcc HB HR0_2.out); (case side4 => exact HC0_2.out); rintro e w10 ⟨rfl, hb⟩; refine ⟨_, rfl, ?_⟩; have n_ : _ ∧ _ ∧ _ := ⟨zk BK253 hb, zk BK254 hb, zbs hb⟩; clear BK253 BK254 HB; obtain ⟨BK253, BK254, HB⟩ := n_; (try clear hb); (try clear hb2); (try clear hk); (try clear hi)) | ((with_reducible refine gate_callee (f := 42) rfl ?_); refine goesL_ (some 11) rfl rfl Try.func42 (by kernel_rfl) rfl #[.pointer (some ⟨gb253, 0, none⟩)] rfl zm ?_; (with_reducible refine (impl_Network_merged.calls k _ [(⟨a0_0, l0_1, l0_2⟩ : S29)] t256 t257 t260 t263 _ ?side1 A4.out).mono ?_); (case side1 => refine ro_of_blk (T := 29) (cs := #[.int .i8 a0_0, .slice A0_1 l0_1.length c0_1, .slice A0_2 l0_2.length c0_2]) (zh BK253).out ?_; exact k29_mk _ (⟨a0_0, l0_1, l0_2⟩ : S29) (by exact HC0_1.out) (by exact zcc HB HR0_1.out) (by exact HC0_2.out) (by exact zcc HB HR0_2.out)); rintro e w11 ⟨v258, v261, v264, rfl, ho0, ho1, ho2, hb⟩; refine ⟨_, rfl, ?_⟩; have n_ : _ ∧ _ ∧ _ ∧ _ ∧ _ ∧ _ := ⟨Aside0.mk (Kd.R_lower ho0 (zz HB)), Aside0.mk (Kd.R_lower ho1 (zz HB)), Aside0.mk (Kd.R_lower ho2 (zz HB)), zk BK253 hb, zk BK254 hb, zbs hb⟩; clear BK253 BK254 HB; obtain ⟨HO259, HO262, HO265, BK253, BK254, HB⟩ := n_; (try clear hb); (try clear hb2); (try clear hk); (try clear hi); (try clear ho0); (try clear ho1); (try clear ho2)) | ((with_reducible refine gate_dst (N := 4) rfl ?_); refine zbx 4 #[.int .i8 0, .slice none 0 0, .slice none 0 0] 29 ?_; intro gb266 hg w12 hbox hb; have n_ : _ ∧ _ ∧ _ ∧ _ ∧ _ ∧ _ ∧ _ ∧ _ ∧ _ ∧ _ ∧ _ ∧ _ ∧ _ := ⟨zr HO259 hb, zr HO262 hb, zr HO265 hb, zk BK253 hb, zk BK254 hb, zbs hb, Aside0.mk (hbox), zg HB hg, zg HB hg, zn1 BK253 hg, zn2 BK253 hg, zn1 BK254 hg, zn2 BK254 hg⟩; clear HO259 HO262 HO265 BK253 BK254 HB; obtain ⟨HO259, HO262, HO265, BK253, BK254, HB, BK266, GW266, GE266, NB253_266, NB266_253, NB254_266, NB266_254⟩ := n_; clear hb hbox hg; have hnb13 := NB266_253.out; have hnc13 := NB253_266.out; have hnb14 := NB266_254.out; have hnc14 := NB254_266.out; obtain ⟨z15_0, z15_1, z15_2, y15_0, y15_1, y15_2⟩ := zB3 BK266; obtain ⟨Ao16, co16, eo16⟩ := Kd.R_slice HO259.out; subst eo16; obtain ⟨Ao17, co17, eo17⟩ := Kd.R_slice HO262.out; subst eo17) | ((with_reducible refine gate_callee (f := 43) rfl ?_); refine goesL_ (some 14) rfl rfl Try.func43 (by kernel_rfl) rfl #[.pointer (some ⟨gb266, 0, none⟩)] rfl zm ?_; (with_reducible refine (impl_Network_trimmed.calls k _ [(⟨t256, t257, t260⟩ : S29)] t267 t268 t271 _ ?side1 A5.out).mono ?_); (case side1 => refine ro_of_blk (T := 29) (cs := #[.int .i8 t256, .slice Ao16 t257.length co16, .slice Ao17 t260.length co17]) (zp BK266) ?_; exact k29_mk _ (⟨t256, t257, t260⟩ : S29) (by exact (Kd.R_reads' HO259.out).2.1) (by exact (Kd.R_reads' (zs HO259 BK266).out).2.2) (by exact (Kd.R_reads' HO262.out).2.1) (by exact (Kd.R_reads' (zs HO262 BK266).out).2.2)); rintro e w18 ⟨v269, v272, rfl, ho0, ho1, hb⟩; refine ⟨_, rfl, ?_⟩; have n_ : _ ∧ _ ∧ _ ∧ _ ∧ _ ∧ _ ∧ _ ∧ _ ∧ _ := ⟨Aside0.mk (Kd.R_elder' (zs HO259 BK266).out (Kd.R_base ho0) hb), Aside0.mk (Kd.R_elder' (zs HO262 BK266).out (Kd.R_base ho1) hb), Aside0.mk (Kd.R_elder' (zs HO265 BK266).out (Kd.R_base ho1) hb), Aside0.mk (Kd.R_lower (Kd.R_new' ho0 (Kd.R_lt (zs HO259 BK266).out)) (zz HB)), Aside0.mk (Kd.R_lower (Kd.R_new' (Kd.R_new' ho1 (Kd.R_lt (zs HO262 BK266).out)) (Kd.R_lt (zs HO265 BK266).out)) (zz HB)), zfb BK253 NB253_266 hb, zfb BK254 NB254_266 hb, Aside0.mk (blk_below (g := gb266) (o := .cells #[.int .i8 t256, .slice Ao16 t257.length co16, .slice Ao17 t260.length co17] 29 (0, 0)) (zp BK266) hb), zbs hb⟩; clear HO259 HO262 HO265 BK253 BK254 BK266 HB; obtain ⟨HO259, HO262, HO265, HO270, HO273, BK253, BK254, BK266, HB⟩ := n_; (try clear hb); (try clear hb2); (try clear hk); (try clear hi); (try clear ho0); (try clear ho1); obtain ⟨z19_0, z19_1, z19_2, y19_0, y19_1, y19_2⟩ := zB3 BK254; obtain ⟨Ao20, co20, eo20⟩ := Kd.R_slice HO270.out; subst eo20; obtain ⟨Ao21, co21, eo21⟩ := Kd.R_slice HO273.out; subst eo21))
 refine bodyPost_ret (results_ct rfl _ _ gb254 29 #[.int .i8 t267, .slice Ao20 t268.length co20, .slice Ao21 t271.length co21] (0, 0) _ rfl (zp BK254) Try.underlying29 rfl (by kernel_rfl)) rfl ?_
 exact ⟨_, _, zv, Kd.R_mono (zs HO270 BK254).out (fun _ hk => trivial), Kd.R_mono (zs HO273 BK254).out (fun _ hk => trivial), zbo⟩
/-- The maker (type T) in the box gb has the nodes xs; beside it the row vo (elements of type e) holds ys. -/
def MKad (T : Nat) (d : Kd Int) (e : Nat) (wo : World) (gb : Nat) (xs : List S61) (vo : Value) (ys : List Int) (w : World) : Prop :=
  ∃ u : Value, w.heap[gb]? = some (.cells #[u] T (0, 0)) ∧ Kd.R k61 61 w wo.heap.size (fun _ => True) u xs ∧ Kd.R d e w wo.heap.size (fun _ => True) vo ys ∧ Below wo.heap.size wo w
def nodeI (k a b : Int) : S61 := ⟨IntKind.i8.wrap k, IntKind.i16.wrap a, IntKind.i16.wrap b⟩
set_option maxHeartbeats 4000000 in
theorem put_calls (wo : World) (gb : Nat) (xs : List S61) (vo : Value) (ys : List Int) (k a b : Int) (w : World) (hgb : wo.heap.size ≤ gb) (hl : xs.length < 100000) (H : MKad 45 (Kd.int .i64) 3 wo gb xs vo ys w) :
    Calls Try.prog 40 #[.pointer (some ⟨gb, 0, none⟩), .int .i64 k, .int .i64 a, .int .i64 b] w fun e w' => e = .returned (.int .i64 (xs.length : Int)) ∧ MKad 45 (Kd.int .i64) 3 wo gb (xs ++ [nodeI k a b]) vo ys w' := by
 obtain ⟨u, hbox, hR, hV, hB⟩ := H
 have BK := Aside0.mk hbox
 have HO := Aside0.mk hR
 have HV := Aside0.mk hV
 have HB := Aside0.mk hB
 have GE := Aside0.mk hgb
 have hL := Aside0.mk hl
 obtain ⟨z_0, y_0⟩ := zB1 BK
 clear hbox hR hV hB hl hgb
 go_enter Try.func40, Try.ntmps40
 go_wp2_with (first | ((with_reducible refine gate_builtin (b := .append) (xs := #[.tmp 13, .tmp 21]) rfl ?_); at_builtin; refine Kd.R_append k61 (w0 := wo) wo.heap.size rfl (.tmp 13) (.tmp 21) 26 61 (.agg #[(.int .i8 0), (.int .i16 0), (.int .i16 0)]) 6 rfl Try.underlying26 info61 rfl (by decide) (by omega) u xs (nodeI k a b) [.int .i8 (IntKind.i8.wrap k), .int .i16 (IntKind.i16.wrap a), .int .i16 (IntKind.i16.wrap b)] (fun _ => True) (fun _ => False) rfl rfl ?aP (fun _ hk => hk.elim) ?aF ?aO ?aB ?aS ?aL ?_; (case aP => exact k61_mkM _ _ _ (nodeI k a b)); (case aB => exact zbo); (case aF => exact (fun _ _ => trivial)); (case aO => exact (ze HO).out); (case aS => exact (zz HB)); (case aL => have := hL.out; omega); intro v341 w77 ho hb hg hat; have n_ : _ ∧ _ ∧ _ ∧ _ := ⟨Aside0.mk (Kd.R_over' (ze HV).out (Kd.R_typed (ze HO).out) (by decide) hg), Aside0.mk (blk_grown (g := gb) (o := .cells #[u] 45 (0, 0)) (zh BK).out hg (Kd.R_ne HO.out BK.out (by decide))), Aside0.mk hb, Aside0.mk ho⟩; clear HV BK HB HO; obtain ⟨HV, BK, HB, HO⟩ := n_; clear ho hb hg hat; obtain ⟨z1_0, y1_0⟩ := zB1 BK; obtain ⟨Ao, co, eo⟩ := Kd.R_slice HO.out; subst eo; rw [show (xs ++ [nodeI k a b]).length = xs.length + 1 from by simp] at HO))
 go_ret
 refine ⟨by rw [show wrap64 (xs.length : Int) = (xs.length : Int) from by have := hL.out; unfold wrap64; omega]; rfl, .slice Ao (xs.length + 1) co, zp BK, (zs HO BK).out, (zs HV BK).out, zbo⟩
set_option maxHeartbeats 4000000 in
theorem input_calls (wo : World) (gb : Nat) (xs : List S61) (vo : Value) (ys : List Int) (a : Int) (w : World) (hgb : wo.heap.size ≤ gb) (hl : xs.length < 100000) (H : MKad 45 (Kd.int .i64) 3 wo gb xs vo ys w) :
    Calls Try.prog 17 #[.pointer (some ⟨gb, 0, none⟩), .int .i64 a] w fun e w' => e = .returned (.int .i64 (xs.length : Int)) ∧ MKad 45 (Kd.int .i64) 3 wo gb (xs ++ [nodeI 0 a 0]) vo ys w' := by
 have H := Aside0.mk H
 go_enter Try.func17, Try.ntmps17
 go_wp2_with (first | ((with_reducible refine gate_callee (f := 40) rfl ?_); refine goesL_ (some 7) rfl rfl Try.func40 (by kernel_rfl) rfl #[.pointer (some ⟨gb, 0, none⟩), .int .i64 0, .int .i64 a, .int .i64 0] rfl zm ?_; (with_reducible refine (put_calls wo gb xs vo ys 0 a 0 _ hgb hl H.out).mono ?_); rintro e w1 ⟨rfl, H1⟩; refine ⟨_, rfl, ?_⟩; clear H; have H := Aside0.mk H1; clear H1))
 go_ret
 exact ⟨rfl, H.out⟩
set_option maxHeartbeats 4000000 in
theorem or_calls (wo : World) (gb : Nat) (xs : List S61) (vo : Value) (ys : List Int) (a b : Int) (w : World) (hgb : wo.heap.size ≤ gb) (hl : xs.length < 100000) (H : MKad 45 (Kd.int .i64) 3 wo gb xs vo ys w) :
    Calls Try.prog 20 #[.pointer (some ⟨gb, 0, none⟩), .int .i64 a, .int .i64 b] w fun e w' => e = .returned (.int .i64 (xs.length : Int)) ∧ MKad 45 (Kd.int .i64) 3 wo gb (xs ++ [nodeI 2 a b]) vo ys w' := by
 have H := Aside0.mk H
 go_enter Try.func20, Try.ntmps20
 go_wp2_with (first | ((with_reducible refine gate_callee (f := 40) rfl ?_); refine goesL_ (some 10) rfl rfl Try.func40 (by kernel_rfl) rfl #[.pointer (some ⟨gb, 0, none⟩), .int .i64 2, .int .i64 a, .int .i64 b] rfl zm ?_; (with_reducible refine (put_calls wo gb xs vo ys 2 a b _ hgb hl H.out).mono ?_); rintro e w1 ⟨rfl, H1⟩; refine ⟨_, rfl, ?_⟩; clear H; have H := Aside0.mk H1; clear H1))
 go_ret
 exact ⟨rfl, H.out⟩
set_option maxHeartbeats 4000000 in
theorem unless_calls (wo : World) (gb : Nat) (xs : List S61) (vo : Value) (ys : List Int) (a b : Int) (w : World) (hgb : wo.heap.size ≤ gb) (hl : xs.length < 100000) (H : MKad 45 (Kd.int .i64) 3 wo gb xs vo ys w) :
    Calls Try.prog 41 #[.pointer (some ⟨gb, 0, none⟩), .int .i64 a, .int .i64 b] w fun e w' => e = .returned (.int .i64 (xs.length : Int)) ∧ MKad 45 (Kd.int .i64) 3 wo gb (xs ++ [nodeI 3 a b]) vo ys w' := by
 have H := Aside0.mk H
 go_enter Try.func41, Try.ntmps41
 go_wp2_with (first | ((with_reducible refine gate_callee (f := 40) rfl ?_); refine goesL_ (some 10) rfl rfl Try.func40 (by kernel_rfl) rfl #[.pointer (some ⟨gb, 0, none⟩), .int .i64 3, .int .i64 a, .int .i64 b] rfl zm ?_; (with_reducible refine (put_calls wo gb xs vo ys 3 a b _ hgb hl H.out).mono ?_); rintro e w1 ⟨rfl, H1⟩; refine ⟨_, rfl, ?_⟩; clear H; have H := Aside0.mk H1; clear H1))
 go_ret
 exact ⟨rfl, H.out⟩
def adXorI (xs : List S61) (a b : Int) : List S61 := xs ++ [nodeI 3 a b] ++ [nodeI 3 b a] ++ [nodeI 2 (xs.length : Int) ((xs.length : Int) + 1)]
def adAndI (xs : List S61) (a b : Int) : List S61 := xs ++ [nodeI 3 a b] ++ [nodeI 3 a (xs.length : Int)]
theorem adLen1 (xs : List S61) (y : S61) : (((xs ++ [y]).length : Nat) : Int) = (xs.length : Int) + 1 := by simp
theorem adLen2 (xs : List S61) (y z : S61) : (((xs ++ [y] ++ [z]).length : Nat) : Int) = (xs.length : Int) + 2 := by simp
set_option maxHeartbeats 4000000 in
theorem and_calls (wo : World) (gb : Nat) (xs : List S61) (vo : Value) (ys : List Int) (a b : Int) (w : World) (hgb : wo.heap.size ≤ gb) (hl : xs.length < 10000) (H : MKad 45 (Kd.int .i64) 3 wo gb xs vo ys w) :
    Calls Try.prog 19 #[.pointer (some ⟨gb, 0, none⟩), .int .i64 a, .int .i64 b] w fun e w' => e = .returned (.int .i64 ((xs.length : Int) + 1)) ∧ MKad 45 (Kd.int .i64) 3 wo gb (adAndI xs a b) vo ys w' := by
 have H := Aside0.mk H
 go_enter Try.func19, Try.ntmps19
 go_wp2_with (first | ((with_reducible refine gate_callee (f := 41) rfl ?_); refine goesL_ (some 12) rfl rfl Try.func41 (by kernel_rfl) rfl #[.pointer (some ⟨gb, 0, none⟩), .int .i64 a, .int .i64 b] rfl zm ?_; (with_reducible refine (unless_calls wo gb xs vo ys a b _ hgb (by omega) H.out).mono ?_); rintro e w1 ⟨rfl, H1⟩; refine ⟨_, rfl, ?_⟩; clear H; have H := Aside0.mk H1; clear H1) | ((with_reducible refine gate_callee (f := 41) rfl ?_); refine goesL_ (some 13) rfl rfl Try.func41 (by kernel_rfl) rfl #[.pointer (some ⟨gb, 0, none⟩), .int .i64 a, .int .i64 (xs.length : Int)] rfl zm ?_; (with_reducible refine (unless_calls wo gb (xs ++ [nodeI 3 a b]) vo ys a (xs.length : Int) _ hgb (by simp; omega) H.out).mono ?_); rintro e w2 ⟨rfl, H1⟩; rw [adLen1]; refine ⟨_, rfl, ?_⟩; clear H; have H := Aside0.mk H1; clear H1))
 go_ret
 exact ⟨rfl, H.out⟩
set_option maxHeartbeats 4000000 in
theorem xor_calls (wo : World) (gb : Nat) (xs : List S61) (vo : Value) (ys : List Int) (a b : Int) (w : World) (hgb : wo.heap.size ≤ gb) (hl : xs.length < 10000) (H : MKad 45 (Kd.int .i64) 3 wo gb xs vo ys w) :
    Calls Try.prog 18 #[.pointer (some ⟨gb, 0, none⟩), .int .i64 a, .int .i64 b] w fun e w' => e = .returned (.int .i64 ((xs.length : Int) + 2)) ∧ MKad 45 (Kd.int .i64) 3 wo gb (adXorI xs a b) vo ys w' := by
 have H := Aside0.mk H
 go_enter Try.func18, Try.ntmps18
 go_wp2_with (first | ((with_reducible refine gate_callee (f := 41) rfl ?_); refine goesL_ (some 11) rfl rfl Try.func41 (by kernel_rfl) rfl #[.pointer (some ⟨gb, 0, none⟩), .int .i64 a, .int .i64 b] rfl zm ?_; (with_reducible refine (unless_calls wo gb xs vo ys a b _ hgb (by omega) H.out).mono ?_); rintro e w1 ⟨rfl, H1⟩; refine ⟨_, rfl, ?_⟩; clear H; have H := Aside0.mk H1; clear H1) | ((with_reducible refine gate_callee (f := 41) rfl ?_); refine goesL_ (some 17) rfl rfl Try.func41 (by kernel_rfl) rfl #[.pointer (some ⟨gb, 0, none⟩), .int .i64 b, .int .i64 a] rfl zm ?_; (with_reducible refine (unless_calls wo gb (xs ++ [nodeI 3 a b]) vo ys b a _ hgb (by simp; omega) H.out).mono ?_); rintro e w2 ⟨rfl, H1⟩; rw [adLen1]; refine ⟨_, rfl, ?_⟩; clear H; have H := Aside0.mk H1; clear H1) | ((with_reducible refine gate_callee (f := 20) rfl ?_); refine goesL_ (some 18) rfl rfl Try.func20 (by kernel_rfl) rfl #[.pointer (some ⟨gb, 0, none⟩), .int .i64 (xs.length : Int), .int .i64 ((xs.length : Int) + 1)] rfl zm ?_; (with_reducible refine (or_calls wo gb (xs ++ [nodeI 3 a b] ++ [nodeI 3 b a]) vo ys (xs.length : Int) ((xs.length : Int) + 1) _ hgb (by simp; omega) H.out).mono ?_); rintro e w3 ⟨rfl, H1⟩; rw [adLen2]; refine ⟨_, rfl, ?_⟩; clear H; have H := Aside0.mk H1; clear H1))
 go_ret
 exact ⟨rfl, H.out⟩
theorem adW64 (n : Nat) (h : n ≤ 1000000) : wrap64 ((n : Int) + 1) = ((n + 1 : Nat) : Int) := by unfold wrap64; omega
theorem adIntOf (x : Int) : intOf (Value.int .i64 x) = x := rfl
theorem adMeas (a i : Nat) (h : i < a) : a - (((i + 1 : Nat) : Int)).toNat < a - ((i : Nat) : Int).toNat := by omega
theorem adTake (ys : List Int) (i : Nat) (h : i < ys.length) (f : Int → Int) : (ys.take (i + 1)).map f = (ys.take i).map f ++ [f (rd ys (i : Int))] := by
 rw [List.take_add_one, List.getElem?_eq_getElem h, List.map_append]
 simp [rd, List.getD, List.getElem?_eq_getElem h]
theorem adSnoc (L : List Int) (y : Int) : (L ++ [y]).length = L.length + 1 := by simp
set_option maxHeartbeats 8000000 in
theorem network_calls (wo : World) (gb : Nat) (xs : List S61) (vo : Value) (ys : List Int) (inp : Int) (w : World) (hgb : wo.heap.size ≤ gb) (hl : xs.length ≤ 80) (hl2 : ys.length ≤ 1000) (H : MKad 45 (Kd.int .i64) 3 wo gb xs vo ys w) :
    Calls Try.prog 21 #[.pointer (some ⟨gb, 0, none⟩), .int .i64 inp, vo] w fun e w' => ∃ u v2 : Value, e = .returned (.tuple #[.agg #[.int .i8 (IntKind.i8.wrap inp), u, v2], .int .i64 0]) ∧ Kd.R k61 61 w' wo.heap.size (fun _ => True) u xs ∧ Kd.R (Kd.int .i16) 54 w' wo.heap.size (fun _ => True) v2 (ys.map IntKind.i16.wrap) ∧ Below wo.heap.size wo w' := by
 obtain ⟨u, hbox, hR, hV, hB⟩ := H
 have BK := Aside0.mk hbox
 have HO := Aside0.mk hR
 have HV := Aside0.mk hV
 have HB := Aside0.mk hB
 have GE := Aside0.mk hgb
 have HL := Aside0.mk hl2
 obtain ⟨Ao, co, eo⟩ := Kd.R_slice hR
 subst eo
 obtain ⟨Av, cv, ev⟩ := Kd.R_slice hV
 subst ev
 obtain ⟨z_0, y_0⟩ := zB1 BK
 have hc : decide ((xs.length : Int) > 80) = false := decide_eq_false (by omega)
 obtain ⟨fw, hfw⟩ : ∃ f : Int → Int, f = IntKind.i16.wrap := ⟨_, rfl⟩
 rw [← hfw]
 have HF := Aside0.mk hfw
 clear hbox hR hV hB hl hgb hl2 hfw
 go_enter Try.func21, Try.ntmps21
 go_wp2_with (first | ((with_reducible refine gate_dst (N := 6) rfl ?_); refine zbx 6 #[.int .i8 0, .slice none 0 0, .slice none 0 0] 29 ?_; intro g6 hg w1 hbox hb; have n_ : _ ∧ _ ∧ _ ∧ _ ∧ _ ∧ _ := ⟨zk BK hb, zr HO hb, zr HV hb, zb HB hb, Aside0.mk hbox, zg HB hg⟩; have NB := zn1 BK hg; have NB2 := zn2 BK hg; clear BK HO HV HB hbox hb hg; obtain ⟨BK, HO, HV, HB, B6, G6⟩ := n_; obtain ⟨z1_0, y1_0⟩ := zB1 BK; obtain ⟨z6_0, z6_1, z6_2, y6_0, y6_1, y6_2⟩ := zB3 B6) | ((with_reducible refine gate_dst (N := 8) rfl ?_); refine zbx 8 #[.int .i8 0, .slice none 0 0, .slice none 0 0] 29 ?_; intro g8 hg w2 hbox hb; have n_ : _ ∧ _ ∧ _ ∧ _ ∧ _ ∧ _ ∧ _ := ⟨zk BK hb, zr HO hb, zr HV hb, zb HB hb, zk B6 hb, Aside0.mk hbox, zg HB hg⟩; have N68 := zn1 B6 hg; have N86 := zn2 B6 hg; have NG8 := zn1 BK hg; have N8G := zn2 BK hg; clear BK HO HV HB B6 hbox hb hg; obtain ⟨BK, HO, HV, HB, B6, B8, G8⟩ := n_; obtain ⟨z1_0, y1_0⟩ := zB1 BK; obtain ⟨z8_0, z8_1, z8_2, y8_0, y8_1, y8_2⟩ := zB3 B8))
 go_loopw [27] (fun v27 w' => ∃ (i : Nat) (vi : Value), v27 = .int .i64 (i : Int) ∧ Aside0 (i ≤ ys.length) ∧ Aside0 (w'.heap[gb]? = some (.cells #[.slice Ao xs.length co] 45 (0, 0))) ∧ Aside0 (w'.heap[g6]? = some (.cells #[.int .i8 0, .slice none 0 0, .slice none 0 0] 29 (0, 0))) ∧ Aside0 (w'.heap[g8]? = some (.cells #[.int .i8 (IntKind.i8.wrap inp), .slice Ao xs.length co, vi] 29 (0, 0))) ∧ Aside0 (Kd.R k61 61 w' wo.heap.size (fun _ => True) (.slice Ao xs.length co) xs) ∧ Aside0 (Kd.R (Kd.int .i64) 3 w' wo.heap.size (fun _ => True) (.slice Av ys.length cv) ys) ∧ Aside0 (Kd.R (Kd.int .i16) 54 w' wo.heap.size (fun _ => True) vi ((ys.take i).map fw)) ∧ Aside0 (Below wo.heap.size wo w')) (fun v27 _ => ys.length - (intOf v27).toNat)
 case atStart => exact ⟨0, .slice none 0 0, rfl, ⟨Nat.zero_le _⟩, zf BK NG8, zf B6 N68, ⟨zp B8⟩, zs HO B8, zs HV B8, ⟨Kd.R_nil _ _ _ _ _⟩, ⟨zbo⟩⟩
 clear BK HO HV HB B6 B8 z1_0 y1_0 z6_0 z6_1 z6_2 y6_0 y6_1 y6_2 z8_0 z8_1 z8_2 y8_0 y8_1 y8_2 z_0 y_0
 obtain ⟨i, vi, rfl, hi, BK, B6, B8, HO, HV, HW, HB⟩ := hrel
 obtain ⟨z8_0, z8_1, z8_2, y8_0, y8_1, y8_2⟩ := zB3 B8
 obtain ⟨z6_0, z6_1, z6_2, y6_0, y6_1, y6_2⟩ := zB3 B6
 by_cases c : i < ys.length
 rotate_left
 ·have c0 : decide ((i : Int) < (ys.length : Int)) = false := decide_eq_false (by omega)
  have hi' : i = ys.length := by have := hi.out; omega
  subst hi'
  obtain ⟨Lw, hLw⟩ : ∃ Lw, Lw = ys.map fw := ⟨_, rfl⟩
  rw [List.take_length, ← hLw] at HW
  obtain ⟨Aw, cw, ew⟩ := Kd.R_slice HW.out
  subst ew
  have HLW := Aside0.mk hLw
  clear hLw
  go_wp2
  rw [← HLW.out]
  refine bodyPost_ret (results_ct rfl _ _ g6 29 #[.int .i8 (IntKind.i8.wrap inp), .slice Ao xs.length co, .slice Aw Lw.length cw] (0, 0) _ rfl (zp B6) Try.underlying29 rfl (by kernel_rfl)) rfl ?_
  exact ⟨_, _, zv, (zs HO B6).out, (zs HW B6).out, zbo⟩
 have c0 : decide ((i : Int) < (ys.length : Int)) = true := decide_eq_true (by omega)
 have c1 : (i : Int) < (ys.length : Int) := by omega
 have c2 : 0 ≤ (i : Int) := by omega
 obtain ⟨ad, ea, hx⟩ := Kd.at_int (Kd.R_reads' HV.out).2.2 (i : Int) c2 c1
 subst ea
 rw [Int.toNat_natCast] at hx
 obtain ⟨y, hy⟩ : ∃ y, y = rd ys (i : Int) := ⟨_, rfl⟩
 rw [← hy] at hx
 obtain ⟨L, hLd⟩ : ∃ L, L = (ys.take i).map fw := ⟨_, rfl⟩
 rw [← hLd] at HW
 have hLl : L.length ≤ 1000 := by have := hi.out; have := HL.out; rw [hLd, List.length_map, List.length_take]; omega
 have HLL := Aside0.mk hLl
 have HLD := Aside0.mk hLd
 have HY := Aside0.mk hy
 have C := Aside0.mk c
 obtain ⟨Aw, cw, ew⟩ := Kd.R_slice HW.out
 subst ew
 clear hLl hLd hy c
 go_wp2_with (first | ((with_reducible refine gate_builtin (b := .append) (xs := #[.tmp 32, .tmp 35]) rfl ?_); at_builtin; refine Kd.R_append (Kd.int .i16) (w0 := wo) wo.heap.size rfl (.tmp 32) (.tmp 35) 27 54 (.int .i16 0) 2 rfl Try.underlying27 info54 rfl (by decide) (by omega) (.slice Aw L.length cw) L (IntKind.i16.wrap y) [.int .i16 (IntKind.i16.wrap y)] (fun _ => True) (fun _ => False) rfl rfl ?aP (fun _ hk => hk.elim) ?aF ?aO ?aB ?aS ?aL ?_; (case aP => exact rfl); (case aB => exact zbo); (case aF => exact (fun _ _ => trivial)); (case aO => exact (ze HW).out); (case aS => exact (zz HB)); (case aL => have := HLL.out; omega); intro v3 w7 ho hb hg hat; have n_ : _ ∧ _ ∧ _ ∧ _ ∧ _ ∧ _ ∧ _ := ⟨Aside0.mk (Kd.R_over' (ze HO).out (Kd.R_typed (ze HW).out) (by decide) hg), Aside0.mk (Kd.R_over' (ze HV).out (Kd.R_typed (ze HW).out) (by decide) hg), Aside0.mk (blk_grown (g := gb) (o := .cells #[.slice Ao xs.length co] 45 (0, 0)) (zh BK).out hg (Kd.R_ne HW.out BK.out (by decide))), Aside0.mk (blk_grown (g := g6) (o := .cells #[.int .i8 0, .slice none 0 0, .slice none 0 0] 29 (0, 0)) (zh B6).out hg (Kd.R_ne HW.out B6.out (by decide))), Aside0.mk (blk_grown (g := g8) (o := .cells #[.int .i8 (IntKind.i8.wrap inp), .slice Ao xs.length co, .slice Aw L.length cw] 29 (0, 0)) (zh B8).out hg (Kd.R_ne HW.out B8.out (by decide))), Aside0.mk hb, Aside0.mk ho⟩; clear HO HV BK B6 B8 HB HW z8_0 z8_1 z8_2 y8_0 y8_1 y8_2 z6_0 z6_1 z6_2 y6_0 y6_1 y6_2 hx; obtain ⟨HO, HV, BK, B6, B8, HB, HW⟩ := n_; clear ho hb hg hat; obtain ⟨z8_0, z8_1, z8_2, y8_0, y8_1, y8_2⟩ := zB3 B8; obtain ⟨Ax, cx, ex⟩ := Kd.R_slice HW.out; subst ex; rw [adSnoc] at HW))
 go_roundw
 case rel =>
  have h1 := C.out
  have h2 := HL.out
  have e64 := adW64 i (by omega)
  have e : (ys.take (i + 1)).map fw = L ++ [IntKind.i16.wrap y] := by
   rw [adTake ys i h1, ← HLD.out, HY.out, HF.out]
  refine ⟨i + 1, .slice Ax (L.length + 1) cx, congrArg (Value.int .i64) e64, ⟨h1⟩, zf BK NG8, zf B6 N68, ⟨zp B8⟩, zs HO B8, zs HV B8, ?_, ⟨zbo⟩⟩
  rw [e]
  exact zs HW B8
 have h1 := C.out
 have e64 := adW64 i (by have := HL.out; omega)
 rw [adIntOf, adIntOf, e64]
 exact adMeas _ _ h1
theorem infoI3 : (Try.prog.info? 3).map (fun i => (i.zero, i.size, i.bytes)) = some (some (.int .i64 0), 1, 8) := by kernel_rfl
/-- One round of the adder: nodes, outputs, carry. -/
def adStepI (b : Int) (i : Nat) (s : List S61 × List Int × Int) : List S61 × List Int × Int :=
  let x1 := s.1 ++ [nodeI 0 (i : Int) 0]
  let x2 := x1 ++ [nodeI 0 ((i : Int) + b) 0]
  let x3 := adXorI x2 (s.1.length : Int) (x1.length : Int)
  let x4 := adAndI x3 (s.1.length : Int) (x1.length : Int)
  if i = 0 then (x4, s.2.1 ++ [(x2.length : Int) + 2], (x3.length : Int) + 1)
  else
    let x5 := adXorI x4 ((x2.length : Int) + 2) s.2.2
    let x6 := adAndI x5 s.2.2 ((x2.length : Int) + 2)
    (x6 ++ [nodeI 2 ((x3.length : Int) + 1) ((x5.length : Int) + 1)], s.2.1 ++ [(x4.length : Int) + 2], (x6.length : Int))
def adI (b : Int) : Nat → List S61 × List Int × Int
  | 0 => ([], [], 0)
  | i + 1 => adStepI b i (adI b i)
theorem adXorI_len (xs : List S61) (a b : Int) : (adXorI xs a b).length = xs.length + 3 := by simp [adXorI]
theorem adAndI_len (xs : List S61) (a b : Int) : (adAndI xs a b).length = xs.length + 2 := by simp [adAndI]
theorem adI_len (b : Int) : ∀ i, (adI b i).1.length ≤ 13 * i ∧ (adI b i).2.1.length = i
  | 0 => by simp [adI]
  | i + 1 => by
    have h := adI_len b i
    simp only [adI, adStepI]
    split <;> simp only [List.length_append, adXorI_len, adAndI_len, List.length_cons, List.length_nil] <;> omega
theorem adWrI (i : Nat) (b : Int) (hi : i ≤ 100) (hb : 0 ≤ b ∧ b ≤ 100) : IntKind.i64.wrap ((i : Int) + b) = (i : Int) + b ∧ wrap64 ((i : Int) + b) = (i : Int) + b ∧ IntKind.i64.wrap (2 * b) = 2 * b ∧ wrap64 (2 * b) = 2 * b := by
 have h1 : wrap64 ((i : Int) + b) = (i : Int) + b := by unfold wrap64; omega
 have h2 : wrap64 (2 * b) = 2 * b := by unfold wrap64; omega
 exact ⟨(i64_w _).trans h1, h1, (i64_w _).trans h2, h2⟩
theorem zMK {T : Nat} {d : Kd Int} {e : Nat} {wo : World} {gb : Nat} {xs : List S61} {vo : Value} {ys : List Int} {W0 W : World} [Ex W0 W] (H : Aside0 (MKad T d e wo gb xs vo ys W0)) : MKad T d e wo gb xs vo ys W := by
 obtain ⟨u, hbox, hR, hV, hB⟩ := H.out
 exact ⟨u, (zh ⟨hbox⟩).out, (ze ⟨hR⟩).out, (ze ⟨hV⟩).out, below_step hB (exO W0 W)⟩
theorem MK_app {wo : World} {gb : Nat} {xs : List S61} {v v1 : Value} {ys zs : List Int} {W w1 : World} (H : MKad 45 (Kd.int .i64) 3 wo gb xs v ys W) (ho : Kd.R (Kd.int .i64) 3 w1 wo.heap.size (fun _ => True) v1 zs) (hb : Below wo.heap.size wo w1) (hg : W.grownBy w1 v.ownBlock) : MKad 45 (Kd.int .i64) 3 wo gb xs v1 zs w1 := by
 obtain ⟨u, hbox, hR, hV, hB⟩ := H
 exact ⟨u, blk_grown hbox hg (Kd.R_ne hV hbox (by decide)), Kd.R_over' hR (Kd.R_typed hV) (by decide) hg, ho, hb⟩
theorem MK_row {T : Nat} {d : Kd Int} {e : Nat} {wo : World} {gb : Nat} {xs : List S61} {vo : Value} {ys : List Int} {W : World} (H : MKad T d e wo gb xs vo ys W) : Kd.R d e W wo.heap.size (fun _ => True) vo ys := by
 obtain ⟨u, hbox, hR, hV, hB⟩ := H
 exact hV
theorem MK_below {T : Nat} {d : Kd Int} {e : Nat} {wo : World} {gb : Nat} {xs : List S61} {vo : Value} {ys : List Int} {W : World} (H : MKad T d e wo gb xs vo ys W) : Below wo.heap.size wo W := by
 obtain ⟨u, hbox, hR, hV, hB⟩ := H
 exact hB
theorem adI_z (b : Int) (xs x1 x2 x3 x4 : List S61) (ys : List Int) (c : Int) (h : adI b 0 = (xs, ys, c)) (e1 : x1 = xs ++ [nodeI 0 ((0 : Nat) : Int) 0]) (e2 : x2 = x1 ++ [nodeI 0 (((0 : Nat) : Int) + b) 0]) (e3 : x3 = adXorI x2 (xs.length : Int) (x1.length : Int)) (e4 : x4 = adAndI x3 (xs.length : Int) (x1.length : Int)) : adI b (0 + 1) = (x4, ys ++ [(x2.length : Int) + 2], (x3.length : Int) + 1) := by
 subst e1 e2 e3 e4
 show adStepI b 0 (adI b 0) = _
 rw [h]
 rfl
theorem adI_s (b : Int) (i : Nat) (hi : i ≠ 0) (xs x1 x2 x3 x4 x5 x6 x7 : List S61) (ys : List Int) (c : Int) (h : adI b i = (xs, ys, c)) (e1 : x1 = xs ++ [nodeI 0 (i : Int) 0]) (e2 : x2 = x1 ++ [nodeI 0 ((i : Int) + b) 0]) (e3 : x3 = adXorI x2 (xs.length : Int) (x1.length : Int)) (e4 : x4 = adAndI x3 (xs.length : Int) (x1.length : Int)) (e5 : x5 = adXorI x4 ((x2.length : Int) + 2) c) (e6 : x6 = adAndI x5 c ((x2.length : Int) + 2)) (e7 : x7 = x6 ++ [nodeI 2 ((x3.length : Int) + 1) ((x5.length : Int) + 1)]) : adI b (i + 1) = (x7, ys ++ [(x4.length : Int) + 2], (x6.length : Int)) := by
 subst e1 e2 e3 e4 e5 e6 e7
 show adStepI b i (adI b i) = _
 rw [h]
 simp only [adStepI, if_neg hi]
theorem MK_put (wo : World) (gb : Nat) (xs : List S61) (v : Value) (ys : List Int) (w : World) (H : MKad 45 (Kd.int .i64) 3 wo gb xs v ys w) : ∃ A c, v = .slice A ys.length c := by
 obtain ⟨u, _, _, hV, _⟩ := H
 exact Kd.R_slice hV
def impl_AdderOf.f (k : Nat) (a0 : Int) : Option (Int × (List (S61)) × List Int × Int) := if 1 ≤ a0 ∧ a0 ≤ 3 then impl_SimplifyNetwork.f k (IntKind.i8.wrap (2 * a0)) (adI a0 a0.toNat).1 (((adI a0 a0.toNat).2.1 ++ [(adI a0 a0.toNat).2.2]).map IntKind.i16.wrap) else some (0, ([] : List (S61)), ([] : List Int), 2)
theorem impl_AdderOf.mono : ∀ a0 k, LeO (impl_AdderOf.f k a0) (impl_AdderOf.f (k + 1) a0) := by
 intro a0 k
 unfold impl_AdderOf.f
 exact LeO.ite (impl_SimplifyNetwork.mono _ _ _ _) (LeO.refl _)
set_option maxHeartbeats 8000000 in
theorem impl_AdderOf.calls (k : Nat) (a0 : Int) (r1 : Int) (r2 : List (S61)) (r3 : List Int) (r4 : Int) (w : World) (h : impl_AdderOf.f k a0 = some (r1, r2, r3, r4)) :
    Calls Try.prog 7 #[.int .i64 a0] w fun e w' => ∃ v1_ v2_ : Value, e = .returned (.tuple #[.agg #[.int .i8 r1, v1_, v2_], .int .i64 r4]) ∧ Kd.R k61 61 w' w.heap.size (fun _ => True) v1_ r2 ∧ Kd.R (Kd.int .i16) 54 w' w.heap.size (fun _ => True) v2_ r3 ∧ Below w.heap.size w w' := by
 have HB := Aside0.mk (Below.refl w.heap.size w)
 unfold impl_AdderOf.f at h
 by_cases c : 1 ≤ a0 ∧ a0 ≤ 3
 rotate_left
 ·rw [if_neg c] at h
  simp only [Option.some.injEq, Prod.mk.injEq] at h
  obtain ⟨rfl, rfl, rfl, rfl⟩ := h
  have hin : impl_in.f a0 1 3 = some false := by
   unfold impl_in.f
   by_cases c1 : a0 ≥ 1
   ·rw [if_pos c1, decide_eq_false (by omega)]
   ·rw [if_neg c1]
  have HIN := Aside0.mk hin
  clear hin
  go_enter Try.func7, Try.ntmps7
  go_wp2_with (first | ((with_reducible refine gate_dst (N := 2) rfl ?_); refine zbx 2 #[.int .i8 0, .slice none 0 0, .slice none 0 0] 29 ?_; intro g2 hg w1 hbox hb; have n_ : _ ∧ _ ∧ _ := ⟨zbs hb, Aside0.mk hbox, zg HB hg⟩; clear HB hbox hb hg; obtain ⟨HB, B2, G2⟩ := n_) | ((with_reducible refine gate_callee (f := 16) rfl ?_); refine goesL_ (some 16) rfl rfl Try.func16 (by kernel_rfl) rfl #[.int .i64 a0, .int .i64 1, .int .i64 3] rfl zm ?_; (with_reducible refine (impl_in.calls a0 1 3 false _ HIN.out).mono ?_); rintro e w2 ⟨rfl, ⟨nd_, rfl⟩⟩; refine ⟨_, rfl, ?_⟩; have n1_ : Aside0 (Below w.heap.size w (w1.drewN nd_)) := zl HB; have n2_ : Aside0 ((w1.drewN nd_).heap[g2]? = some (.cells #[.int .i8 0, .slice none 0 0, .slice none 0 0] 29 (0, 0))) := zh B2; clear HB B2; generalize w1.drewN nd_ = wo at n1_ n2_ ⊢; have HB := n1_; have B2 := n2_; clear n1_ n2_; obtain ⟨z2_0, z2_1, z2_2, y2_0, y2_1, y2_2⟩ := zB3 B2))
  refine bodyPost_ret (results_ct rfl _ _ g2 29 #[.int .i8 0, .slice none 0 0, .slice none 0 0] (0, 0) _ rfl (zp B2) Try.underlying29 rfl (by kernel_rfl)) rfl ?_
  exact ⟨_, _, zv, Kd.R_nil _ _ _ _ _, Kd.R_nil _ _ _ _ _, zbo⟩
 rw [if_pos c] at h
 have hin : impl_in.f a0 1 3 = some true := by unfold impl_in.f; rw [if_pos (by omega), decide_eq_true c.2]
 have HIN := Aside0.mk hin
 obtain ⟨n, rfl⟩ := Int.eq_ofNat_of_zero_le (by omega : 0 ≤ a0)
 have H := Aside0.mk h
 have C : Aside0 (1 ≤ n ∧ n ≤ 3) := ⟨by omega⟩
 clear h hin c
 go_enter Try.func7, Try.ntmps7
 go_wp2_with (first | ((with_reducible refine gate_dst (N := 2) rfl ?_); refine zbx 2 #[.int .i8 0, .slice none 0 0, .slice none 0 0] 29 ?_; intro g2 hg w1 hbox hb; have n_ : _ ∧ _ ∧ _ := ⟨zbs hb, Aside0.mk hbox, zg HB hg⟩; clear HB hbox hb hg; obtain ⟨HB, B2, G2⟩ := n_) | ((with_reducible refine gate_callee (f := 16) rfl ?_); refine goesL_ (some 16) rfl rfl Try.func16 (by kernel_rfl) rfl #[.int .i64 (n : Int), .int .i64 1, .int .i64 3] rfl zm ?_; (with_reducible refine (impl_in.calls (n : Int) 1 3 true _ HIN.out).mono ?_); rintro e w2 ⟨rfl, ⟨nd_, rfl⟩⟩; refine ⟨_, rfl, ?_⟩; have n1_ : Aside0 (Below w.heap.size w (w1.drewN nd_)) := zl HB; have n2_ : Aside0 ((w1.drewN nd_).heap[g2]? = some (.cells #[.int .i8 0, .slice none 0 0, .slice none 0 0] 29 (0, 0))) := zh B2; clear HB B2; generalize w1.drewN nd_ = wo at n1_ n2_ ⊢; have HB := n1_; have B2 := n2_; clear n1_ n2_) | ((with_reducible refine gate_dst (N := 20) rfl ?_); refine zbx 20 #[.slice none 0 0] 45 ?_; intro gb hg w3 hbox hb; have n_ : _ ∧ _ ∧ _ := ⟨Aside0.mk hb, Aside0.mk hbox, Aside0.mk hg⟩; clear hbox hb hg; obtain ⟨HW, BG, GG⟩ := n_) | ((with_reducible refine gate_dst (N := 21) rfl ?_); refine Kd.R_lit (Kd.int .i64) (w0 := wo) wo.heap.size 3 ?hg (N := 21) ?hd (xs := ([] : List Int)) (inner := []) (ok := fun _ => True) (okp := fun _ => True) ?hr ?hp (fun _ hk => hk) trivial ?hb (zz HW) (by simp) ?_; (case hd => rfl); (case hg => rfl); (case hr => exact zgs); (case hp => exact (Reps.none _ _)); (case hb => exact zbo); intro v21 w4 ho hb hg_ hnew_; have HM : Aside0 (MKad 45 (Kd.int .i64) 3 wo gb [] v21 [] w4) := ⟨.slice none 0 0, blk_grown (zh BG).out hg_ (by simp), Kd.R_nil _ _ _ _ _, ho, hb⟩; clear BG HW hg_ hnew_ hb ho))
 have GE : Aside0 (wo.heap.size ≤ gb) := ⟨by rw [GG.out]; exact Nat.le_refl _⟩
 have hwN := (adWrI 0 (n : Int) (by omega) (by have := C.out; omega)).2.2.1
 have hwN2 := (adWrI 0 (n : Int) (by omega) (by have := C.out; omega)).2.2.2
 go_loopw [5, 6, 23] (fun v5 v6 v23 w' => ∃ (i : Nat) (xs : List S61) (ys : List Int) (cc : Int), v6 = .int .i64 cc ∧ v23 = .int .i64 (i : Int) ∧ Aside0 (i ≤ n) ∧ Aside0 (adI (n : Int) i = (xs, ys, cc)) ∧ Aside0 (MKad 45 (Kd.int .i64) 3 wo gb xs v5 ys w')) (fun _ _ v23 _ => n - (intOf v23).toNat)
 case atStart => exact ⟨0, [], [], 0, rfl, rfl, ⟨Nat.zero_le _⟩, ⟨rfl⟩, ⟨zMK HM⟩⟩
 clear HM
 obtain ⟨i, xs, ys, cc, rfl, rfl, hi, hst, HM⟩ := hrel
 have hlen := adI_len (n : Int) i
 rw [hst.out] at hlen
 by_cases c : i < n
 rotate_left
 ·have c0 : decide (i < n) = false := decide_eq_false c
  obtain rfl : n = i := by have := hi.out; omega
  have LX : Aside0 (xs.length ≤ 39) := ⟨by have := C.out; have := hlen.1; simp only at this; omega⟩
  have LY : Aside0 (ys.length ≤ 3) := ⟨by have := C.out; have := hlen.2; simp only at this; omega⟩
  obtain ⟨yz, ezs⟩ : ∃ x, x = ys ++ [cc] := ⟨_, rfl⟩
  have YS := Aside0.mk ezs
  have LZ : Aside0 (yz.length ≤ 4) := ⟨by have := LY.out; rw [ezs, List.length_append]; simp only [List.length_cons, List.length_nil]; omega⟩
  obtain ⟨zl, ezl⟩ : ∃ x, x = yz.map IntKind.i16.wrap := ⟨_, rfl⟩
  have ZL := Aside0.mk ezl
  have H2 : impl_SimplifyNetwork.f k (IntKind.i8.wrap (2 * (n : Int))) xs zl = some (r1, r2, r3, r4) := by
   have h := H.out
   rw [Int.toNat_natCast, hst.out] at h
   rw [ezl, ezs]
   exact h
  clear H
  have H := Aside0.mk H2
  clear H2 ezs ezl hlen c
  go_wp2_with (first | ((with_reducible refine gate_builtin (b := .append) (xs := #[.tmp 69, .tmp 71]) rfl ?_); at_builtin; refine Kd.R_append (Kd.int .i64) (w0 := wo) wo.heap.size rfl (.tmp 69) (.tmp 71) 46 3 (.int .i64 0) 8 rfl Try.underlying46 infoI3 rfl (by decide) (by omega) u5 ys cc [.int .i64 cc] (fun _ => True) (fun _ => False) rfl rfl ?aP (fun _ hk => hk.elim) ?aF ?aO ?aB ?aS ?aL ?_; (case aP => exact rfl); (case aB => exact MK_below (zMK HM)); (case aF => exact (fun _ _ => trivial)); (case aO => exact MK_row (zMK HM)); (case aS => exact (MK_below (zMK HM)).size); (case aL => have := LY.out; omega); intro v7 w7 ho hb hg hat; have HM2 := Aside0.mk (MK_app (zMK HM) ho hb hg); clear HM ho hb hg hat; have HM := HM2; clear HM2; rw [← YS.out] at HM) | ((with_reducible refine gate_callee (f := 21) rfl ?_); refine goesL_ (some 73) rfl rfl Try.func21 (by kernel_rfl) rfl #[.pointer (some ⟨gb, 0, none⟩), .int .i64 (2 * (n : Int)), v7] rfl zm ?_; (with_reducible refine (network_calls wo gb xs v7 yz (2 * (n : Int)) _ GE.out (by have := LX.out; omega) (by have := LZ.out; omega) (zMK HM)).mono ?_); rintro e w8 ⟨un, vn, rfl, ho1, ho2, hb⟩; refine ⟨_, rfl, ?_⟩; rw [← ZL.out] at ho2; have n_ : _ ∧ _ ∧ _ ∧ _ := ⟨Aside0.mk (Kd.R_lower ho1 HB.out.size), Aside0.mk (Kd.R_lower ho2 HB.out.size), Aside0.mk (blk_below B2.out hb), Aside0.mk (below_step HB.out hb)⟩; clear HM B2 HB ho1 ho2 hb; obtain ⟨HN, HZ, B2, HB⟩ := n_; obtain ⟨A1, c1, e1⟩ := Kd.R_slice HN.out; subst e1; obtain ⟨A2, c2, e2⟩ := Kd.R_slice HZ.out; subst e2) | ((with_reducible refine gate_dst (N := 13) rfl ?_); refine zbx 13 #[.int .i8 0, .slice none 0 0, .slice none 0 0] 29 ?_; intro g13 hg w9 hbox hb; have n_ : _ ∧ _ ∧ _ ∧ _ ∧ _ ∧ _ := ⟨zr HN hb, zr HZ hb, zk B2 hb, zbs hb, Aside0.mk hbox, zg HB hg⟩; have N2 := zn1 B2 hg; have N13 := zn2 B2 hg; clear HN HZ B2 HB hbox hb hg; obtain ⟨HN, HZ, B2, HB, B13, G13⟩ := n_; obtain ⟨z13_0, z13_1, z13_2, y13_0, y13_1, y13_2⟩ := zB3 B13) | ((with_reducible refine gate_callee (f := 22) rfl ?_); refine goesL_ (some 77) rfl rfl Try.func22 (by kernel_rfl) rfl #[.agg #[.int .i8 (IntKind.i8.wrap (2 * (n : Int))), .slice A1 xs.length c1, .slice A2 zl.length c2]] rfl zm ?_; (with_reducible refine (impl_SimplifyNetwork.calls k _ _ _ xs _ _ zl r1 r2 r3 r4 _ ?s1 ?s2 ?s3 ?s4 H.out).mono ?_); (case s1 => exact (Kd.R_reads' (zs HN B13).out).2.2); (case s2 => exact (Kd.R_reads' HN.out).2.1); (case s3 => exact (Kd.R_reads' (zs HZ B13).out).2.2); (case s4 => exact (Kd.R_reads' HZ.out).2.1); rintro e w10 ⟨va, vb, rfl, hoa, hob, hb⟩; refine ⟨_, rfl, ?_⟩; have n_ : _ ∧ _ ∧ _ ∧ _ := ⟨Aside0.mk (Kd.R_lower hoa (zz HB)), Aside0.mk (Kd.R_lower hob (zz HB)), zfb B2 N2 hb, zbs hb⟩; clear B2 HB HN HZ B13 hoa hob hb z13_0 z13_1 z13_2 y13_0 y13_1 y13_2; obtain ⟨HA, HC, B2, HB⟩ := n_; obtain ⟨A3, c3, e3⟩ := Kd.R_slice HA.out; subst e3; obtain ⟨A4, c4, e4⟩ := Kd.R_slice HC.out; subst e4; obtain ⟨z2_0, z2_1, z2_2, y2_0, y2_1, y2_2⟩ := zB3 B2))
  refine bodyPost_ret (results_ct rfl _ _ g2 29 #[.int .i8 r1, .slice A3 r2.length c3, .slice A4 r3.length c4] (0, 0) _ rfl (zp B2) Try.underlying29 rfl (by kernel_rfl)) rfl ?_
  exact ⟨_, _, zv, (zs HA B2).out, (zs HC B2).out, zbo⟩
 have c0 : decide (i < n) = true := decide_eq_true c
 have LI : Aside0 (i ≤ 2) := ⟨by have := C.out; omega⟩
 have L0 : Aside0 (xs.length ≤ 26) := ⟨by have := LI.out; have := hlen.1; simp only at this; omega⟩
 have LY : Aside0 (ys.length ≤ 2) := ⟨by have := LI.out; have := hlen.2; simp only at this; omega⟩
 obtain ⟨x1, e1⟩ : ∃ x, x = xs ++ [nodeI 0 (i : Int) 0] := ⟨_, rfl⟩
 obtain ⟨x2, e2⟩ : ∃ x, x = x1 ++ [nodeI 0 ((i : Int) + (n : Int)) 0] := ⟨_, rfl⟩
 obtain ⟨x3, e3⟩ : ∃ x, x = adXorI x2 (xs.length : Int) (x1.length : Int) := ⟨_, rfl⟩
 obtain ⟨x4, e4⟩ : ∃ x, x = adAndI x3 (xs.length : Int) (x1.length : Int) := ⟨_, rfl⟩
 have L1 : Aside0 (x1.length ≤ 27) := ⟨by have := L0.out; rw [e1, List.length_append]; simp only [List.length_cons, List.length_nil]; omega⟩
 have L2 : Aside0 (x2.length ≤ 28) := ⟨by have := L1.out; rw [e2, List.length_append]; simp only [List.length_cons, List.length_nil]; omega⟩
 have L3 : Aside0 (x3.length ≤ 31) := ⟨by have := L2.out; rw [e3, adXorI_len]; omega⟩
 have L4 : Aside0 (x4.length ≤ 33) := ⟨by have := L3.out; rw [e4, adAndI_len]; omega⟩
 have E1 := Aside0.mk e1
 have E2 := Aside0.mk e2
 have E3 := Aside0.mk e3
 have E4 := Aside0.mk e4
 have hw := adWrI i (n : Int) (by have := LI.out; omega) (by have := C.out; omega)
 have hwa := hw.1
 have hwb := hw.2.1
 have CC := Aside0.mk c
 clear e1 e2 e3 e4 hw c hlen
 by_cases hi0 : i = 0
 ·have q0 : ((i : Int) == 0) = true := beq_iff_eq.mpr (by omega)
  have HI0 := Aside0.mk hi0
  clear hi0
  go_wp2_with (first | ((with_reducible refine gate_callee (f := 17) rfl ?_); refine goesL_ (some 28) rfl rfl Try.func17 (by kernel_rfl) rfl #[.pointer (some ⟨gb, 0, none⟩), .int .i64 (i : Int)] rfl zm ?_; (with_reducible refine (input_calls wo gb xs u5 ys (i : Int) _ GE.out (by have := L0.out; omega) (zMK HM)).mono ?_); rintro e w5 ⟨rfl, H1⟩; refine ⟨_, rfl, ?_⟩; rw [← E1.out] at H1; clear HM; have HM := Aside0.mk H1; clear H1) | ((with_reducible refine gate_callee (f := 17) rfl ?_); refine goesL_ (some 33) rfl rfl Try.func17 (by kernel_rfl) rfl #[.pointer (some ⟨gb, 0, none⟩), .int .i64 ((i : Int) + (n : Int))] rfl zm ?_; (with_reducible refine (input_calls wo gb x1 u5 ys ((i : Int) + (n : Int)) _ GE.out (by have := L1.out; omega) (zMK HM)).mono ?_); rintro e w5 ⟨rfl, H1⟩; refine ⟨_, rfl, ?_⟩; rw [← E2.out] at H1; clear HM; have HM := Aside0.mk H1; clear H1) | ((with_reducible refine gate_callee (f := 18) rfl ?_); refine goesL_ (some 37) rfl rfl Try.func18 (by kernel_rfl) rfl #[.pointer (some ⟨gb, 0, none⟩), .int .i64 (xs.length : Int), .int .i64 (x1.length : Int)] rfl zm ?_; (with_reducible refine (xor_calls wo gb x2 u5 ys (xs.length : Int) (x1.length : Int) _ GE.out (by have := L2.out; omega) (zMK HM)).mono ?_); rintro e w5 ⟨rfl, H1⟩; refine ⟨_, rfl, ?_⟩; rw [← E3.out] at H1; clear HM; have HM := Aside0.mk H1; clear H1) | ((with_reducible refine gate_callee (f := 19) rfl ?_); refine goesL_ (some 41) rfl rfl Try.func19 (by kernel_rfl) rfl #[.pointer (some ⟨gb, 0, none⟩), .int .i64 (xs.length : Int), .int .i64 (x1.length : Int)] rfl zm ?_; (with_reducible refine (and_calls wo gb x3 u5 ys (xs.length : Int) (x1.length : Int) _ GE.out (by have := L3.out; omega) (zMK HM)).mono ?_); rintro e w5 ⟨rfl, H1⟩; refine ⟨_, rfl, ?_⟩; rw [← E4.out] at H1; clear HM; have HM := Aside0.mk H1; clear H1) | ((with_reducible refine gate_builtin (b := .append) (xs := #[.tmp 44, .tmp 46]) rfl ?_); at_builtin; refine Kd.R_append (Kd.int .i64) (w0 := wo) wo.heap.size rfl (.tmp 44) (.tmp 46) 46 3 (.int .i64 0) 8 rfl Try.underlying46 infoI3 rfl (by decide) (by omega) u5 ys ((x2.length : Int) + 2) [.int .i64 ((x2.length : Int) + 2)] (fun _ => True) (fun _ => False) rfl rfl ?aP (fun _ hk => hk.elim) ?aF ?aO ?aB ?aS ?aL ?_; (case aP => exact rfl); (case aB => exact MK_below (zMK HM)); (case aF => exact (fun _ _ => trivial)); (case aO => exact MK_row (zMK HM)); (case aS => exact (MK_below (zMK HM)).size); (case aL => have := LY.out; omega); intro v7 w7 ho hb hg hat; have HM2 := Aside0.mk (MK_app (zMK HM) ho hb hg); clear HM ho hb hg hat; have HM := HM2; clear HM2))
  go_roundw
  case rel =>
   have h1 := LI.out
   refine ⟨i + 1, x4, ys ++ [(x2.length : Int) + 2], (x3.length : Int) + 1, rfl, congrArg (Value.int .i64) (adW64 i (by omega)), ⟨CC.out⟩, ⟨?_⟩, ⟨zMK HM⟩⟩
   have h0 := HI0.out
   have hs := hst.out
   have g1 := E1.out
   have g2_ := E2.out
   subst h0
   exact adI_z _ _ _ _ _ _ _ _ hs g1 g2_ E3.out E4.out
  have e64 := adW64 i (by have := LI.out; omega)
  rw [adIntOf, adIntOf, e64]
  exact adMeas _ _ CC.out
 have q0 : ((i : Int) == 0) = false := beq_eq_false_iff_ne.mpr (by omega)
 have HI0 := Aside0.mk hi0
 clear hi0
 obtain ⟨x5, e5⟩ : ∃ x, x = adXorI x4 ((x2.length : Int) + 2) cc := ⟨_, rfl⟩
 obtain ⟨x6, e6⟩ : ∃ x, x = adAndI x5 cc ((x2.length : Int) + 2) := ⟨_, rfl⟩
 obtain ⟨x7, e7⟩ : ∃ x, x = x6 ++ [nodeI 2 ((x3.length : Int) + 1) ((x5.length : Int) + 1)] := ⟨_, rfl⟩
 have L5 : Aside0 (x5.length ≤ 36) := ⟨by have := L4.out; rw [e5, adXorI_len]; omega⟩
 have L6 : Aside0 (x6.length ≤ 38) := ⟨by have := L5.out; rw [e6, adAndI_len]; omega⟩
 have E5 := Aside0.mk e5
 have E6 := Aside0.mk e6
 have E7 := Aside0.mk e7
 clear e5 e6 e7
 go_wp2_with (first | ((with_reducible refine gate_callee (f := 17) rfl ?_); refine goesL_ (some 28) rfl rfl Try.func17 (by kernel_rfl) rfl #[.pointer (some ⟨gb, 0, none⟩), .int .i64 (i : Int)] rfl zm ?_; (with_reducible refine (input_calls wo gb xs u5 ys (i : Int) _ GE.out (by have := L0.out; omega) (zMK HM)).mono ?_); rintro e w5 ⟨rfl, H1⟩; refine ⟨_, rfl, ?_⟩; rw [← E1.out] at H1; clear HM; have HM := Aside0.mk H1; clear H1) | ((with_reducible refine gate_callee (f := 17) rfl ?_); refine goesL_ (some 33) rfl rfl Try.func17 (by kernel_rfl) rfl #[.pointer (some ⟨gb, 0, none⟩), .int .i64 ((i : Int) + (n : Int))] rfl zm ?_; (with_reducible refine (input_calls wo gb x1 u5 ys ((i : Int) + (n : Int)) _ GE.out (by have := L1.out; omega) (zMK HM)).mono ?_); rintro e w5 ⟨rfl, H1⟩; refine ⟨_, rfl, ?_⟩; rw [← E2.out] at H1; clear HM; have HM := Aside0.mk H1; clear H1) | ((with_reducible refine gate_callee (f := 18) rfl ?_); refine goesL_ (some 37) rfl rfl Try.func18 (by kernel_rfl) rfl #[.pointer (some ⟨gb, 0, none⟩), .int .i64 (xs.length : Int), .int .i64 (x1.length : Int)] rfl zm ?_; (with_reducible refine (xor_calls wo gb x2 u5 ys (xs.length : Int) (x1.length : Int) _ GE.out (by have := L2.out; omega) (zMK HM)).mono ?_); rintro e w5 ⟨rfl, H1⟩; refine ⟨_, rfl, ?_⟩; rw [← E3.out] at H1; clear HM; have HM := Aside0.mk H1; clear H1) | ((with_reducible refine gate_callee (f := 19) rfl ?_); refine goesL_ (some 41) rfl rfl Try.func19 (by kernel_rfl) rfl #[.pointer (some ⟨gb, 0, none⟩), .int .i64 (xs.length : Int), .int .i64 (x1.length : Int)] rfl zm ?_; (with_reducible refine (and_calls wo gb x3 u5 ys (xs.length : Int) (x1.length : Int) _ GE.out (by have := L3.out; omega) (zMK HM)).mono ?_); rintro e w5 ⟨rfl, H1⟩; refine ⟨_, rfl, ?_⟩; rw [← E4.out] at H1; clear HM; have HM := Aside0.mk H1; clear H1) | ((with_reducible refine gate_callee (f := 18) rfl ?_); refine goesL_ (some 53) rfl rfl Try.func18 (by kernel_rfl) rfl #[.pointer (some ⟨gb, 0, none⟩), .int .i64 ((x2.length : Int) + 2), .int .i64 cc] rfl zm ?_; (with_reducible refine (xor_calls wo gb x4 u5 ys ((x2.length : Int) + 2) cc _ GE.out (by have := L4.out; omega) (zMK HM)).mono ?_); rintro e w5 ⟨rfl, H1⟩; refine ⟨_, rfl, ?_⟩; rw [← E5.out] at H1; clear HM; have HM := Aside0.mk H1; clear H1) | ((with_reducible refine gate_builtin (b := .append) (xs := #[.tmp 49, .tmp 54]) rfl ?_); at_builtin; refine Kd.R_append (Kd.int .i64) (w0 := wo) wo.heap.size rfl (.tmp 49) (.tmp 54) 46 3 (.int .i64 0) 8 rfl Try.underlying46 infoI3 rfl (by decide) (by omega) u5 ys ((x4.length : Int) + 2) [.int .i64 ((x4.length : Int) + 2)] (fun _ => True) (fun _ => False) rfl rfl ?aP (fun _ hk => hk.elim) ?aF ?aO ?aB ?aS ?aL ?_; (case aP => exact rfl); (case aB => exact MK_below (zMK HM)); (case aF => exact (fun _ _ => trivial)); (case aO => exact MK_row (zMK HM)); (case aS => exact (MK_below (zMK HM)).size); (case aL => have := LY.out; omega); intro v7 w7 ho hb hg hat; have HM2 := Aside0.mk (MK_app (zMK HM) ho hb hg); clear HM ho hb hg hat; have HM := HM2; clear HM2) | ((with_reducible refine gate_callee (f := 19) rfl ?_); refine goesL_ (some 59) rfl rfl Try.func19 (by kernel_rfl) rfl #[.pointer (some ⟨gb, 0, none⟩), .int .i64 cc, .int .i64 ((x2.length : Int) + 2)] rfl zm ?_; (with_reducible refine (and_calls wo gb x5 v7 (ys ++ [(x4.length : Int) + 2]) cc ((x2.length : Int) + 2) _ GE.out (by have := L5.out; omega) (zMK HM)).mono ?_); rintro e w5 ⟨rfl, H1⟩; refine ⟨_, rfl, ?_⟩; rw [← E6.out] at H1; clear HM; have HM := Aside0.mk H1; clear H1) | ((with_reducible refine gate_callee (f := 20) rfl ?_); refine goesL_ (some 63) rfl rfl Try.func20 (by kernel_rfl) rfl #[.pointer (some ⟨gb, 0, none⟩), .int .i64 ((x3.length : Int) + 1), .int .i64 ((x5.length : Int) + 1)] rfl zm ?_; (with_reducible refine (or_calls wo gb x6 v7 (ys ++ [(x4.length : Int) + 2]) ((x3.length : Int) + 1) ((x5.length : Int) + 1) _ GE.out (by have := L6.out; omega) (zMK HM)).mono ?_); rintro e w5 ⟨rfl, H1⟩; refine ⟨_, rfl, ?_⟩; rw [← E7.out] at H1; clear HM; have HM := Aside0.mk H1; clear H1))
 go_roundw
 case rel =>
  have h1 := LI.out
  refine ⟨i + 1, x7, ys ++ [(x4.length : Int) + 2], (x6.length : Int), rfl, congrArg (Value.int .i64) (adW64 i (by omega)), ⟨CC.out⟩, ⟨?_⟩, ⟨zMK HM⟩⟩
  exact adI_s _ _ HI0.out _ _ _ _ _ _ _ _ _ _ hst.out E1.out E2.out E3.out E4.out E5.out E6.out E7.out
 have e64 := adW64 i (by have := LI.out; omega)
 rw [adIntOf, adIntOf, e64]
 exact adMeas _ _ CC.out
def spec_l00In.f (a0 : Int) (a1 : Int) (a2 : Int) : Option (Bool) := if a0 ≥ a1 then (some (decide (a0 ≤ a2))) else (some false)
set_option maxHeartbeats 8000000 in
theorem spec_l00In.calls (a0 : Int) (a1 : Int) (a2 : Int) (r : Bool) (w : World) (h : spec_l00In.f a0 a1 a2 = some r) :
    Calls Try.prog 23 #[.int .i64 a0, .int .i64 a1, .int .i64 a2] w fun e w' => e = .returned (.bool r) ∧ Drawn0 w w' := by
 have H : (if a0 ≥ a1 then (some (decide (a0 ≤ a2))) else (some false)) = some r := h
 clear h
 by_cases c4 : a0 ≥ a1
 ·rw [if_pos c4] at H
  have c4b0 : decide (a1 ≤ a0) = true := decide_eq_true c4
  clear c4
  obtain rfl := Option.some.inj H
  go_enter Try.func23, Try.ntmps23
  go_wp2
  go_ret
  exact ⟨zi, zdr⟩
 rw [if_neg c4] at H
 have c4b0 : decide (a1 ≤ a0) = false := decide_eq_false c4
 clear c4
 obtain rfl := Option.some.inj H
 go_enter Try.func23, Try.ntmps23
 go_wp2
 go_ret
 exact ⟨zi, zdr⟩
-- NOT PRINTED: function 24 (spec_l04Maker_add)

-- NOT PRINTED: function 25 (spec_l04Maker_xor)

-- NOT PRINTED: function 26 (spec_l04Maker_and)

-- NOT PRINTED: function 27 (spec_l04Maker_made)

def spec_l04Rows.f (a0 : Int) : Option (Int) := if 0 ≤ (IntKind.u64.wrap (a0)) then (some (shl .i64 1 (IntKind.u64.wrap (a0)))) else (none)
set_option maxHeartbeats 8000000 in
theorem spec_l04Rows.calls (a0 : Int) (r : Int) (w : World) (h : spec_l04Rows.f a0 = some r) :
    Calls Try.prog 64 #[.int .i64 a0] w fun e w' => e = .returned (.int .i64 r) ∧ Drawn0 w w' := by
 have H : (if 0 ≤ (IntKind.u64.wrap (a0)) then (some (shl .i64 1 (IntKind.u64.wrap (a0)))) else (none)) = some r := h
 clear h
 obtain ⟨ji2, hji2⟩ : ∃ j_ : Int, (IntKind.u64.wrap (a0)) = j_ := ⟨_, rfl⟩
 replace H : (if 0 ≤ (ji2) then (some (shl .i64 1 (ji2))) else (none)) = some r := by first | (rw [hji2] at H; exact H) | (simp only [hji2] at H ⊢; exact H)
 by_cases c3 : 0 ≤ (ji2)
 rotate_left
 ·rw [if_neg c3] at H
  exact absurd H (by simp)
 rw [if_pos c3] at H
 have c3b0 := eq_true c3
 have c3b1 : decide (0 ≤ (ji2)) = true := decide_eq_true c3
 clear c3
 obtain ⟨ji4, hji4⟩ : ∃ j_ : Int, (shl .i64 1 (ji2)) = j_ := ⟨_, rfl⟩
 replace H : (some ji4) = some r := by first | (rw [hji4] at H; exact H) | (simp only [hji4] at H ⊢; exact H)
 have hji4_ : (IntKind.i64.wrap (1 * 2 ^ min (ji2).toNat 64)) = ji4 := hji4
 have hji4z : (ji2) ≤ 64 → (IntKind.i64.wrap (1 * 2 ^ (ji2).toNat)) = ji4 := shl_small hji4
 have hji4u : (IntKind.i64.wrap (2 ^ min (ji2).toNat 64)) = ji4 := by have h_ := hji4_; rw [Int.one_mul] at h_; exact h_
 have hji4v : (ji2) ≤ 64 → (IntKind.i64.wrap (2 ^ (ji2).toNat)) = ji4 := fun hle_ => by have h_ := hji4z hle_; rw [Int.one_mul] at h_; exact h_
 have hji4y : (wrap64 (1 * 2 ^ min (ji2).toNat 64)) = ji4 := (i64_w _).symm.trans hji4_
 have hji4x : (ji2) ≤ 64 → (wrap64 (1 * 2 ^ (ji2).toNat)) = ji4 := fun h_ => (i64_w _).symm.trans (hji4z h_)
 obtain rfl := Option.some.inj H
 go_enter Try.func64, Try.ntmps64
 go_wp2
 go_ret
 exact ⟨by first | rfl | (simp; done) | (simp only [← hji2, ← hji4] <;> (first | rfl | simp)) | (simp [*]; done) | (exact congrArg (Value.int .i64) (wrap_eq (by omega))), zdr⟩
def spec_l04Full.f (a0 : Int) : Option (Int) := (spec_l04Rows.f a0).bind fun t277 => (if 0 ≤ (IntKind.u64.wrap (wrap64 (64 - t277))) then (some (shr .u64 18446744073709551615 (IntKind.u64.wrap (wrap64 (64 - t277))))) else (none))
set_option maxHeartbeats 8000000 in
theorem spec_l04Full.calls (a0 : Int) (r : Int) (w : World) (h : spec_l04Full.f a0 = some r) :
    Calls Try.prog 61 #[.int .i64 a0] w fun e w' => e = .returned (.int .u64 r) ∧ Drawn0 w w' := by
 have H : ((spec_l04Rows.f a0).bind fun t277 => (if 0 ≤ (IntKind.u64.wrap (wrap64 (64 - t277))) then (some (shr .u64 18446744073709551615 (IntKind.u64.wrap (wrap64 (64 - t277))))) else (none))) = some r := h
 clear h
 replace H := zob H
 obtain ⟨t277, A20, H⟩ := H
 replace H : (if 0 ≤ (IntKind.u64.wrap (wrap64 (64 - t277))) then (some (shr .u64 18446744073709551615 (IntKind.u64.wrap (wrap64 (64 - t277))))) else (none)) = some r := H
 have A2 := Aside0.mk A20
 clear A20
 obtain ⟨ji3, hji3⟩ : ∃ j_ : Int, (IntKind.u64.wrap (wrap64 (64 - t277))) = j_ := ⟨_, rfl⟩
 replace H : (if 0 ≤ (ji3) then (some (shr .u64 18446744073709551615 (ji3))) else (none)) = some r := by first | (rw [hji3] at H; exact H) | (simp only [hji3] at H ⊢; exact H)
 (try rw [hji3] at A2)
 by_cases c4 : 0 ≤ (ji3)
 rotate_left
 ·rw [if_neg c4] at H
  exact absurd H (by simp)
 rw [if_pos c4] at H
 have c4b0 := eq_true c4
 have c4b1 : decide (0 ≤ (ji3)) = true := decide_eq_true c4
 clear c4
 obtain ⟨ji5, hji5⟩ : ∃ j_ : Int, (shr .u64 18446744073709551615 (ji3)) = j_ := ⟨_, rfl⟩
 replace H : (some ji5) = some r := by first | (rw [hji5] at H; exact H) | (simp only [hji5] at H ⊢; exact H)
 (try rw [hji5] at A2)
 have hji5_ : (18446744073709551615 / 2 ^ min (ji3).toNat 64) = ji5 := hji5
 have hji5z : (ji3) ≤ 64 → (18446744073709551615 / 2 ^ (ji3).toNat) = ji5 := shr_small hji5
 obtain rfl := Option.some.inj H
 go_enter Try.func61, Try.ntmps61
 go_wp2_with (first | ((with_reducible refine gate_callee (f := 64) rfl ?_); refine goesL_ (some 4) rfl rfl Try.func64 (by kernel_rfl) rfl #[.int .i64 a0] rfl zm ?_; (with_reducible refine (spec_l04Rows.calls a0 t277 _ A2.out).mono ?_); rintro e w' ⟨rfl, ⟨nd, rfl⟩⟩; refine ⟨_, rfl, ?_⟩))
 go_ret
 exact ⟨by first | rfl | (simp; done) | (simp only [← hji3, ← hji5] <;> (first | rfl | simp)) | (simp [*]; done) | (exact congrArg (Value.int .i64) (wrap_eq (by omega))), zdr⟩
def spec_l04Input.l0 : Nat → Int → Int → Int → Int → Option (Int)
  | 0, _, _, _, _ => none
  | k + 1, x0, x1, x5, x6 => (spec_l04Rows.f x0).bind fun t278 => (if x6 < t278 then (if 0 ≤ (IntKind.u64.wrap (x1)) then (if 0 ≤ (IntKind.u64.wrap (x6)) then (spec_l04Input.l0 k x0 x1 (Go.bits .or .u64 x5 (shl .u64 (IntKind.u64.wrap (Go.bits .and .i64 (shr .i64 x6 (IntKind.u64.wrap (x1))) 1)) (IntKind.u64.wrap (x6)))) (wrap64 (x6 + 1))) else (none)) else (none)) else (some x5))
def spec_l04Input.f (k : Nat) (a0 : Int) (a1 : Int) : Option (Int) := spec_l04Input.l0 k a0 a1 0 0
theorem spec_l04Input.mono_l : ∀ k, (∀ y0 y1 y2 y3, LeO (spec_l04Input.l0 k y0 y1 y2 y3) (spec_l04Input.l0 (k + 1) y0 y1 y2 y3))
  | 0 => fun _ _ _ _ r h => by simp [spec_l04Input.l0] at h
  | k + 1 => by
    have ih0 := spec_l04Input.mono_l k
    · intro y0 y1 y2 y3
      unfold spec_l04Input.l0
      repeat' first | (with_reducible first | apply ih0 | exact LeO.refl _ | exact LeO.none _ | refine LeO.ite ?_ ?_ | refine LeO.bind ?_ (fun _ => ?_)) | apply ih0 | exact LeO.none _ | refine LeO.ite ?_ ?_ | refine LeO.bind ?_ (fun _ => ?_)
theorem spec_l04Input.mono : ∀ a0 a1 k, LeO (spec_l04Input.f k a0 a1) (spec_l04Input.f (k + 1) a0 a1) := by
 intro a0 a1 k
 have ih0 := spec_l04Input.mono_l k
 unfold spec_l04Input.f
 repeat' first | (with_reducible first | apply ih0 | exact LeO.refl _ | exact LeO.none _ | refine LeO.ite ?_ ?_ | refine LeO.bind ?_ (fun _ => ?_)) | apply ih0 | exact LeO.none _ | refine LeO.ite ?_ ?_ | refine LeO.bind ?_ (fun _ => ?_)
set_option maxHeartbeats 8000000 in
theorem spec_l04Input.calls (k : Nat) (a0 : Int) (a1 : Int) (r : Int) (w : World) (h : spec_l04Input.f k a0 a1 = some r) :
    Calls Try.prog 62 #[.int .i64 a0, .int .i64 a1] w fun e w' => e = .returned (.int .u64 r) ∧ Drawn0 w w' := by
 have H : (spec_l04Input.l0 k a0 a1 0 0) = some r := h
 clear h
 have H' := Aside0.mk H
 clear H
 go_enter Try.func62, Try.ntmps62
 go_wp2
 go_loopg [5, 6] k (fun kq v5 v6 w' => ∃ (x5_1 : Int) (x6_1 : Int), v5 = .int .u64 x5_1 ∧ v6 = .int .i64 x6_1 ∧ Aside0 (spec_l04Input.l0 kq a0 a1 x5_1 x6_1 = some r) ∧ Aside0 (kq ≤ k) ∧ Drawn0 w w')
 case atStart => exact ⟨(0), (0), zi, zi, H', ⟨Nat.le_refl _⟩, zdr⟩
 clear H'
 try clear p2
 obtain ⟨x5_1, x6_1, rfl, rfl, HA, HK1, ⟨m1, rfl⟩⟩ := hrel
 cases gk with
 | zero => exact absurd HA.out (by simp [spec_l04Input.l0])
 | succ k1 => ?_
 have H := HA.out
 clear HA
 simp only [spec_l04Input.l0] at H
 replace H := zob H
 obtain ⟨t278, A30, H⟩ := H
 replace H : (if x6_1 < t278 then (if 0 ≤ (IntKind.u64.wrap (a1)) then (if 0 ≤ (IntKind.u64.wrap (x6_1)) then (spec_l04Input.l0 k1 a0 a1 (Go.bits .or .u64 x5_1 (shl .u64 (IntKind.u64.wrap (Go.bits .and .i64 (shr .i64 x6_1 (IntKind.u64.wrap (a1))) 1)) (IntKind.u64.wrap (x6_1)))) (wrap64 (x6_1 + 1))) else (none)) else (none)) else (some x5_1)) = some r := H
 have A3 := Aside0.mk A30
 clear A30
 by_cases c4 : x6_1 < t278
 rotate_left
 ·rw [if_neg c4] at H
  have c4b0 : decide (x6_1 < t278) = false := decide_eq_false c4
  clear c4
  obtain rfl := Option.some.inj H
  go_wp2_with (first | ((with_reducible refine gate_callee (f := 64) rfl ?_); refine goesL_ (some 9) rfl rfl Try.func64 (by kernel_rfl) rfl #[.int .i64 a0] rfl zm ?_; (with_reducible refine (spec_l04Rows.calls a0 t278 _ A3.out).mono ?_); rintro e w' ⟨rfl, ⟨nd, rfl⟩⟩; refine ⟨_, rfl, ?_⟩))
  go_ret
  exact ⟨zi, zdr⟩
 rw [if_pos c4] at H
 have c4b0 : decide (x6_1 < t278) = true := decide_eq_true c4
 clear c4
 obtain ⟨ji5, hji5⟩ : ∃ j_ : Int, (IntKind.u64.wrap (a1)) = j_ := ⟨_, rfl⟩
 replace H : (if 0 ≤ (ji5) then (if 0 ≤ (IntKind.u64.wrap (x6_1)) then (spec_l04Input.l0 k1 a0 a1 (Go.bits .or .u64 x5_1 (shl .u64 (IntKind.u64.wrap (Go.bits .and .i64 (shr .i64 x6_1 (ji5)) 1)) (IntKind.u64.wrap (x6_1)))) (wrap64 (x6_1 + 1))) else (none)) else (none)) = some r := by first | (rw [hji5] at H; exact H) | (simp only [hji5] at H ⊢; exact H)
 (try rw [hji5] at A3)
 by_cases c6 : 0 ≤ (ji5)
 rotate_left
 ·rw [if_neg c6] at H
  exact absurd H (by simp)
 rw [if_pos c6] at H
 have c6b0 := eq_true c6
 have c6b1 : decide (0 ≤ (ji5)) = true := decide_eq_true c6
 clear c6
 obtain ⟨ji7, hji7⟩ : ∃ j_ : Int, (shr .i64 x6_1 (ji5)) = j_ := ⟨_, rfl⟩
 replace H : (if 0 ≤ (IntKind.u64.wrap (x6_1)) then (spec_l04Input.l0 k1 a0 a1 (Go.bits .or .u64 x5_1 (shl .u64 (IntKind.u64.wrap (Go.bits .and .i64 (ji7) 1)) (IntKind.u64.wrap (x6_1)))) (wrap64 (x6_1 + 1))) else (none)) = some r := by first | (rw [hji7] at H; exact H) | (simp only [hji7] at H ⊢; exact H)
 (try rw [hji7] at A3)
 have hji7_ : (x6_1 / 2 ^ min (ji5).toNat 64) = ji7 := hji7
 have hji7z : (ji5) ≤ 64 → (x6_1 / 2 ^ (ji5).toNat) = ji7 := shr_small hji7
 obtain ⟨ji8, hji8⟩ : ∃ j_ : Int, (IntKind.u64.wrap (x6_1)) = j_ := ⟨_, rfl⟩
 replace H : (if 0 ≤ (ji8) then (spec_l04Input.l0 k1 a0 a1 (Go.bits .or .u64 x5_1 (shl .u64 (IntKind.u64.wrap (Go.bits .and .i64 (ji7) 1)) (ji8))) (wrap64 (x6_1 + 1))) else (none)) = some r := by first | (rw [hji8] at H; exact H) | (simp only [hji8] at H ⊢; exact H)
 (try rw [hji8] at A3)
 by_cases c9 : 0 ≤ (ji8)
 rotate_left
 ·rw [if_neg c9] at H
  exact absurd H (by simp)
 rw [if_pos c9] at H
 have c9b0 := eq_true c9
 have c9b1 : decide (0 ≤ (ji8)) = true := decide_eq_true c9
 clear c9
 obtain ⟨ji10, hji10⟩ : ∃ j_ : Int, (shl .u64 (IntKind.u64.wrap (Go.bits .and .i64 (ji7) 1)) (ji8)) = j_ := ⟨_, rfl⟩
 replace H : (spec_l04Input.l0 k1 a0 a1 (Go.bits .or .u64 x5_1 (ji10)) (wrap64 (x6_1 + 1))) = some r := by first | (rw [hji10] at H; exact H) | (simp only [hji10] at H ⊢; exact H)
 (try rw [hji10] at A3)
 have hji10_ : (IntKind.u64.wrap ((IntKind.u64.wrap (Go.bits .and .i64 (ji7) 1)) * 2 ^ min (ji8).toNat 64)) = ji10 := hji10
 have hji10z : (ji8) ≤ 64 → (IntKind.u64.wrap ((IntKind.u64.wrap (Go.bits .and .i64 (ji7) 1)) * 2 ^ (ji8).toNat)) = ji10 := shl_small hji10
 have H' := Aside0.mk H
 clear H
 go_wp2_with (first | ((with_reducible refine gate_callee (f := 64) rfl ?_); refine goesL_ (some 9) rfl rfl Try.func64 (by kernel_rfl) rfl #[.int .i64 a0] rfl zm ?_; (with_reducible refine (spec_l04Rows.calls a0 t278 _ A3.out).mono ?_); rintro e w' ⟨rfl, ⟨nd, rfl⟩⟩; refine ⟨_, rfl, ?_⟩))
 go_roundg k1
 case measure => have := HK1.out; omega
 case rel => exact ⟨(Go.bits .or .u64 x5_1 (ji10)), (wrap64 (x6_1 + 1)), (by first | rfl | (simp; done) | (simp only [← hji10] <;> (first | rfl | simp)) | (simp [*]; done) | (exact congrArg (Value.int .i64) (wrap_eq (by omega)))), zi, H', ⟨by have := HK1.out; omega⟩, zdr⟩
end Go.Proofs.Ytkflenibdijnaaa.PFnAdders
