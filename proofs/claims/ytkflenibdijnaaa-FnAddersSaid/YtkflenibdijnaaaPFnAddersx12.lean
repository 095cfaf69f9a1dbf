-- WRITTEN by xprint.py, a program of this session's. Not trusted: Lean checks it.
-- packed by pack.py
import Derived.Test.YtkflenibdijnaaaPFnAddersx0
import Derived.Test.YtkflenibdijnaaaPFnAddersx8
import Derived.Test.YtkflenibdijnaaaPFnAddersx10
import Derived.Test.YtkflenibdijnaaaPFnAddersx11
import Derived.Test.YtkflenibdijnaaaTFnAddersa
namespace Go.Proofs.Ytkflenibdijnaaa.PFnAdders
open Go.RowKit Go.Proofs.YtkflenibdijnaaaW.PrintWords Go.Proofs.YtkflenibdijnaaaW.PrintLast Go.Proofs.YtkflenibdijnaaaW.PrintMore Go.Proofs.YtkflenibdijnaaaX
attribute [local go_sem] max2_int min2_int max_two min_two max_three min_three max_four min_four   -- for this text's walks alone
set_option maxRecDepth 100000
set_option linter.unusedVariables false
set_option linter.unusedSimpArgs false

def spec_l04Simplify.f (k : Nat) (l0 : List (S29)) : Option (Int × (List (S61)) × List Int) := (spec_l04Merge.f k l0).bind fun bt404 => ((spec_l04Trim.f k [(⟨bt404.1, bt404.2.1, bt404.2.2.1⟩ : S29)]).bind fun bt415 => (some (bt415.1, bt415.2.1, bt415.2.2)))
theorem spec_l04Simplify.mono : ∀ a0 k, LeO (spec_l04Simplify.f k a0) (spec_l04Simplify.f (k + 1) a0) := by
 intro a0 k
 unfold spec_l04Simplify.f
 repeat' first | (with_reducible first | apply spec_l04Merge.mono | apply spec_l04Trim.mono | exact LeO.refl _ | exact LeO.none _ | refine LeO.ite ?_ ?_ | refine LeO.bind ?_ (fun _ => ?_)) | apply spec_l04Merge.mono | apply spec_l04Trim.mono | exact LeO.none _ | refine LeO.ite ?_ ?_ | refine LeO.bind ?_ (fun _ => ?_)
set_option maxHeartbeats 8000000 in
theorem spec_l04Simplify.calls (k : Nat) (adp0 : Addr) (l0 : List (S29)) (r1 : Int) (r2 : List (S61)) (r3 : List Int) (w : World) (hr0 : Kd.C k29 w (some adp0) l0.length l0) (h : spec_l04Simplify.f k l0 = some (r1, r2, r3)) :
    Calls Try.prog 28 #[.pointer (some adp0)] w fun e w' => ∃ v1_ v2_ : Value, e = .returned (.agg #[.int .i8 r1, v1_, v2_]) ∧ Kd.R k61 61 w' w.heap.size (fun _ => True) v1_ r2 ∧ Kd.R (Kd.int .i16) 54 w' w.heap.size (fun _ => True) v2_ r3 ∧ Below w.heap.size w w' := by
 have hu29 := Try.underlying29
 have HR0 := Aside0.mk hr0
 clear hr0
 have HB := Aside0.mk (Below.refl w.heap.size w)
 have H : ((spec_l04Merge.f k l0).bind fun bt404 => ((spec_l04Trim.f k [(⟨bt404.1, bt404.2.1, bt404.2.2.1⟩ : S29)]).bind fun bt415 => (some (bt415.1, bt415.2.1, bt415.2.2)))) = some (r1, r2, r3) := h
 clear h
 replace H := zob H
 obtain ⟨⟨t404, t405, t408, t411⟩, A20, H⟩ := H
 replace H : ((spec_l04Trim.f k [(⟨t404, t405, t408⟩ : S29)]).bind fun bt415 => (some (bt415.1, bt415.2.1, bt415.2.2))) = some (r1, r2, r3) := H
 have A2 := Aside0.mk A20
 clear A20
 replace H := zob H
 obtain ⟨⟨t415, t416, t419⟩, A30, H⟩ := H
 replace H : (some (t415, t416, t419)) = some (r1, r2, r3) := H
 have A3 := Aside0.mk A30
 clear A30
 simp only [Option.some.injEq, Prod.mk.injEq] at H
 obtain ⟨rfl, rfl, rfl⟩ := H
 go_enter Try.func28, Try.ntmps28
 go_wp2_with (first | ((with_reducible refine gate_dst (N := 2) rfl ?_); refine zbx 2 #[.int .i8 0, .slice none 0 0, .slice none 0 0] 29 ?_; intro gb403 hg w4 hbox hb; have n_ : _ ∧ _ ∧ _ ∧ _ := ⟨zb HB hb, Aside0.mk (hbox), zg HB hg, zg HB hg⟩; clear HB; obtain ⟨HB, BK403, GW403, GE403⟩ := n_; clear hb hbox hg) | ((with_reducible refine gate_callee (f := 44) rfl ?_); refine goesL_ (some 7) rfl rfl Try.func44 (by kernel_rfl) rfl #[.pointer (some adp0)] rfl zm ?_; (with_reducible refine (spec_l04Merge.calls k _ l0 t404 t405 t408 t411 _ ?side1 A2.out).mono ?_); (case side1 => exact zcc HB HR0.out); rintro e w5 ⟨v406, v409, v412, rfl, ho0, ho1, ho2, hb⟩; refine ⟨_, rfl, ?_⟩; have n_ : _ ∧ _ ∧ _ ∧ _ ∧ _ := ⟨Aside0.mk (Kd.R_lower ho0 (zz HB)), Aside0.mk (Kd.R_lower ho1 (zz HB)), Aside0.mk (Kd.R_lower ho2 (zz HB)), zk BK403 hb, zbs hb⟩; clear BK403 HB; obtain ⟨HO407, HO410, HO413, BK403, HB⟩ := n_; (try clear hb); (try clear hb2); (try clear hk); (try clear hi); (try clear ho0); (try clear ho1); (try clear ho2)) | ((with_reducible refine gate_dst (N := 3) rfl ?_); refine zbx 3 #[.int .i8 0, .slice none 0 0, .slice none 0 0] 29 ?_; intro gb414 hg w6 hbox hb; have n_ : _ ∧ _ ∧ _ ∧ _ ∧ _ ∧ _ ∧ _ ∧ _ ∧ _ ∧ _ := ⟨zr HO407 hb, zr HO410 hb, zr HO413 hb, zk BK403 hb, zbs hb, Aside0.mk (hbox), zg HB hg, zg HB hg, zn1 BK403 hg, zn2 BK403 hg⟩; clear HO407 HO410 HO413 BK403 HB; obtain ⟨HO407, HO410, HO413, BK403, HB, BK414, GW414, GE414, NB403_414, NB414_403⟩ := n_; clear hb hbox hg; have hnb7 := NB414_403.out; have hnc7 := NB403_414.out; obtain ⟨z8_0, z8_1, z8_2, y8_0, y8_1, y8_2⟩ := zB3 BK414; obtain ⟨Ao9, co9, eo9⟩ := Kd.R_slice HO407.out; subst eo9; obtain ⟨Ao10, co10, eo10⟩ := Kd.R_slice HO410.out; subst eo10) | ((with_reducible refine gate_callee (f := 45) rfl ?_); refine goesL_ (some 10) rfl rfl Try.func45 (by kernel_rfl) rfl #[.pointer (some ⟨gb414, 0, none⟩)] rfl zm ?_; (with_reducible refine (spec_l04Trim.calls k _ [(⟨t404, t405, t408⟩ : S29)] t415 t416 t419 _ ?side1 A3.out).mono ?_); (case side1 => refine ro_of_blk (T := 29) (cs := #[.int .i8 t404, .slice Ao9 t405.length co9, .slice Ao10 t408.length co10]) (zp BK414) ?_; exact k29_mk _ (⟨t404, t405, t408⟩ : S29) (by exact (Kd.R_reads' HO407.out).2.1) (by exact (Kd.R_reads' (zs HO407 BK414).out).2.2) (by exact (Kd.R_reads' HO410.out).2.1) (by exact (Kd.R_reads' (zs HO410 BK414).out).2.2)); rintro e w11 ⟨v417, v420, rfl, ho0, ho1, hb⟩; refine ⟨_, rfl, ?_⟩; have n_ : _ ∧ _ ∧ _ ∧ _ ∧ _ ∧ _ ∧ _ ∧ _ := ⟨Aside0.mk (Kd.R_elder' (zs HO407 BK414).out (Kd.R_base ho0) hb), Aside0.mk (Kd.R_elder' (zs HO410 BK414).out (Kd.R_base ho1) hb), zsb HO413 BK414 hb, Aside0.mk (Kd.R_lower (Kd.R_new' ho0 (Kd.R_lt (zs HO407 BK414).out)) (zz HB)), Aside0.mk (Kd.R_lower (Kd.R_new' ho1 (Kd.R_lt (zs HO410 BK414).out)) (zz HB)), zfb BK403 NB403_414 hb, Aside0.mk (blk_below (g := gb414) (o := .cells #[.int .i8 t404, .slice Ao9 t405.length co9, .slice Ao10 t408.length co10] 29 (0, 0)) (zp BK414) hb), zbs hb⟩; clear HO407 HO410 HO413 BK403 BK414 HB; obtain ⟨HO407, HO410, HO413, HO418, HO421, BK403, BK414, HB⟩ := n_; (try clear hb); (try clear hb2); (try clear hk); (try clear hi); (try clear ho0); (try clear ho1); obtain ⟨z12_0, z12_1, z12_2, y12_0, y12_1, y12_2⟩ := zB3 BK403; obtain ⟨Ao13, co13, eo13⟩ := Kd.R_slice HO418.out; subst eo13; obtain ⟨Ao14, co14, eo14⟩ := Kd.R_slice HO421.out; subst eo14))
 refine bodyPost_ret (results_cell_row rfl _ _ gb403 29 #[.int .i8 t415, .slice Ao13 t416.length co13, .slice Ao14 t419.length co14] (0, 0) _ rfl (zp BK403) Try.underlying29 rfl (by kernel_rfl)) rfl ?_
 exact ⟨_, _, zv, Kd.R_mono (zs HO418 BK403).out (fun _ hk => trivial), Kd.R_mono (zs HO421 BK403).out (fun _ hk => trivial), zbo⟩
def nodeR (k a b : Int) : S61 := ⟨k, a, b⟩
set_option maxHeartbeats 4000000 in
theorem sadd_calls (wo : World) (gb : Nat) (xs : List S61) (vo : Value) (ys : List Int) (k a b : Int) (w : World) (hgb : wo.heap.size ≤ gb) (hl : xs.length < 10000) (H : MKad 53 (Kd.int .i16) 54 wo gb xs vo ys w) :
    Calls Try.prog 24 #[.pointer (some ⟨gb, 0, none⟩), .int .i8 k, .int .i16 a, .int .i16 b] w fun e w' => e = .returned (.int .i16 (xs.length : Int)) ∧ MKad 53 (Kd.int .i16) 54 wo gb (xs ++ [nodeR k a b]) vo ys w' := by
 obtain ⟨u, hbox, hR, hV, hB⟩ := H
 have BK := Aside0.mk hbox
 have HO := Aside0.mk hR
 have HV := Aside0.mk hV
 have HB := Aside0.mk hB
 have GE := Aside0.mk hgb
 have hL := Aside0.mk hl
 obtain ⟨z_0, y_0⟩ := zB1 BK
 clear hbox hR hV hB hl hgb
 go_enter Try.func24, Try.ntmps24
 go_wp2_with (first | ((with_reducible refine gate_builtin (b := .append) (xs := #[.tmp 13, .tmp 18]) rfl ?_); at_builtin; refine Kd.R_append k61 (w0 := wo) wo.heap.size rfl (.tmp 13) (.tmp 18) 26 61 (.agg #[(.int .i8 0), (.int .i16 0), (.int .i16 0)]) 6 rfl Try.underlying26 info61 rfl (by decide) (by omega) u xs (nodeR k a b) [.int .i8 k, .int .i16 a, .int .i16 b] (fun _ => True) (fun _ => False) rfl rfl ?aP (fun _ hk => hk.elim) ?aF ?aO ?aB ?aS ?aL ?_; (case aP => exact k61_mkM _ _ _ (nodeR k a b)); (case aB => exact zbo); (case aF => exact (fun _ _ => trivial)); (case aO => exact (ze HO).out); (case aS => exact (zz HB)); (case aL => have := hL.out; omega); intro v341 w77 ho hb hg hat; have n_ : _ ∧ _ ∧ _ ∧ _ := ⟨Aside0.mk (Kd.R_over' (ze HV).out (Kd.R_typed (ze HO).out) (by decide) hg), Aside0.mk (blk_grown (g := gb) (o := .cells #[u] 53 (0, 0)) (zh BK).out hg (Kd.R_ne HO.out BK.out (by decide))), Aside0.mk hb, Aside0.mk ho⟩; clear HV BK HB HO; obtain ⟨HV, BK, HB, HO⟩ := n_; clear ho hb hg hat; obtain ⟨z1_0, y1_0⟩ := zB1 BK; obtain ⟨Ao, co, eo⟩ := Kd.R_slice HO.out; subst eo; rw [show (xs ++ [nodeR k a b]).length = xs.length + 1 from by simp] at HO))
 go_ret
 refine ⟨congrArg (fun x => Ending.returned (Value.int .i16 x)) ?_, .slice Ao (xs.length + 1) co, zp BK, (zs HO BK).out, (zs HV BK).out, zbo⟩
 have := hL.out
 rw [show wrap64 (xs.length : Int) = (xs.length : Int) from by unfold wrap64; omega]
 exact IntWalk.i16_in _ (by omega)
def adXorR (xs : List S61) (a b : Int) : List S61 := xs ++ [nodeR 3 a b] ++ [nodeR 3 b a] ++ [nodeR 2 (xs.length : Int) ((xs.length : Int) + 1)]
def adAndR (xs : List S61) (a b : Int) : List S61 := xs ++ [nodeR 3 a b] ++ [nodeR 3 a (xs.length : Int)]
set_option maxHeartbeats 4000000 in
theorem sand_calls (wo : World) (gb : Nat) (xs : List S61) (vo : Value) (ys : List Int) (a b : Int) (w : World) (hgb : wo.heap.size ≤ gb) (hl : xs.length < 1000) (H : MKad 53 (Kd.int .i16) 54 wo gb xs vo ys w) :
    Calls Try.prog 26 #[.pointer (some ⟨gb, 0, none⟩), .int .i16 a, .int .i16 b] w fun e w' => e = .returned (.int .i16 ((xs.length : Int) + 1)) ∧ MKad 53 (Kd.int .i16) 54 wo gb (adAndR xs a b) vo ys w' := by
 have H := Aside0.mk H
 go_enter Try.func26, Try.ntmps26
 go_wp2_with (first | ((with_reducible refine gate_callee (f := 24) rfl ?_); refine goesL_ (some 11) rfl rfl Try.func24 (by kernel_rfl) rfl #[.pointer (some ⟨gb, 0, none⟩), .int .i8 3, .int .i16 a, .int .i16 b] rfl zm ?_; (with_reducible refine (sadd_calls wo gb xs vo ys 3 a b _ hgb (by omega) H.out).mono ?_); rintro e w1 ⟨rfl, H1⟩; refine ⟨_, rfl, ?_⟩; clear H; have H := Aside0.mk H1; clear H1) | ((with_reducible refine gate_callee (f := 24) rfl ?_); refine goesL_ (some 15) rfl rfl Try.func24 (by kernel_rfl) rfl #[.pointer (some ⟨gb, 0, none⟩), .int .i8 3, .int .i16 a, .int .i16 (xs.length : Int)] rfl zm ?_; (with_reducible refine (sadd_calls wo gb (xs ++ [nodeR 3 a b]) vo ys 3 a (xs.length : Int) _ hgb (by simp; omega) H.out).mono ?_); rintro e w2 ⟨rfl, H1⟩; rw [adLen1]; refine ⟨_, rfl, ?_⟩; clear H; have H := Aside0.mk H1; clear H1))
 go_ret
 exact ⟨rfl, H.out⟩
set_option maxHeartbeats 4000000 in
theorem sxor_calls (wo : World) (gb : Nat) (xs : List S61) (vo : Value) (ys : List Int) (a b : Int) (w : World) (hgb : wo.heap.size ≤ gb) (hl : xs.length < 1000) (H : MKad 53 (Kd.int .i16) 54 wo gb xs vo ys w) :
    Calls Try.prog 25 #[.pointer (some ⟨gb, 0, none⟩), .int .i16 a, .int .i16 b] w fun e w' => e = .returned (.int .i16 ((xs.length : Int) + 2)) ∧ MKad 53 (Kd.int .i16) 54 wo gb (adXorR xs a b) vo ys w' := by
 have H := Aside0.mk H
 go_enter Try.func25, Try.ntmps25
 go_wp2_with (first | ((with_reducible refine gate_callee (f := 24) rfl ?_); refine goesL_ (some 12) rfl rfl Try.func24 (by kernel_rfl) rfl #[.pointer (some ⟨gb, 0, none⟩), .int .i8 3, .int .i16 a, .int .i16 b] rfl zm ?_; (with_reducible refine (sadd_calls wo gb xs vo ys 3 a b _ hgb (by omega) H.out).mono ?_); rintro e w1 ⟨rfl, H1⟩; refine ⟨_, rfl, ?_⟩; clear H; have H := Aside0.mk H1; clear H1) | ((with_reducible refine gate_callee (f := 24) rfl ?_); refine goesL_ (some 16) rfl rfl Try.func24 (by kernel_rfl) rfl #[.pointer (some ⟨gb, 0, none⟩), .int .i8 3, .int .i16 b, .int .i16 a] rfl zm ?_; (with_reducible refine (sadd_calls wo gb (xs ++ [nodeR 3 a b]) vo ys 3 b a _ hgb (by simp; omega) H.out).mono ?_); rintro e w2 ⟨rfl, H1⟩; rw [adLen1]; refine ⟨_, rfl, ?_⟩; clear H; have H := Aside0.mk H1; clear H1) | ((with_reducible refine gate_callee (f := 24) rfl ?_); refine goesL_ (some 20) rfl rfl Try.func24 (by kernel_rfl) rfl #[.pointer (some ⟨gb, 0, none⟩), .int .i8 2, .int .i16 (xs.length : Int), .int .i16 ((xs.length : Int) + 1)] rfl zm ?_; (with_reducible refine (sadd_calls wo gb (xs ++ [nodeR 3 a b] ++ [nodeR 3 b a]) vo ys 2 (xs.length : Int) ((xs.length : Int) + 1) _ hgb (by simp; omega) H.out).mono ?_); rintro e w3 ⟨rfl, H1⟩; rw [adLen2]; refine ⟨_, rfl, ?_⟩; clear H; have H := Aside0.mk H1; clear H1))
 go_ret
 exact ⟨rfl, H.out⟩
set_option maxHeartbeats 4000000 in
theorem made_calls (wo : World) (gb : Nat) (xs : List S61) (vo : Value) (ys : List Int) (inp : Int) (w : World) (hgb : wo.heap.size ≤ gb) (hl : xs.length ≤ 80) (H : MKad 53 (Kd.int .i16) 54 wo gb xs vo ys w) :
    Calls Try.prog 27 #[.pointer (some ⟨gb, 0, none⟩), .int .i64 inp, vo] w fun e w' => ∃ u : Value, e = .returned (.tuple #[.agg #[.int .i8 (IntKind.i8.wrap inp), u, vo], .int .i64 0]) ∧ Kd.R k61 61 w' wo.heap.size (fun _ => True) u xs ∧ Kd.R (Kd.int .i16) 54 w' wo.heap.size (fun _ => True) vo ys ∧ Below wo.heap.size wo w' := by
 obtain ⟨u, hbox, hR, hV, hB⟩ := H
 have BK := Aside0.mk hbox
 have HO := Aside0.mk hR
 have HV := Aside0.mk hV
 have HB := Aside0.mk hB
 have GE := Aside0.mk hgb
 obtain ⟨Ao, co, eo⟩ := Kd.R_slice hR
 subst eo
 obtain ⟨Av, cv, ev⟩ := Kd.R_slice hV
 subst ev
 obtain ⟨z_0, y_0⟩ := zB1 BK
 have hc : decide ((xs.length : Int) > 80) = false := decide_eq_false (by omega)
 clear hbox hR hV hB hl hgb
 go_enter Try.func27, Try.ntmps27
 go_wp2_with (first | ((with_reducible refine gate_dst (N := 6) rfl ?_); refine zbx 6 #[.int .i8 0, .slice none 0 0, .slice none 0 0] 29 ?_; intro g6 hg w1 hbox hb; have n_ : _ ∧ _ ∧ _ ∧ _ ∧ _ ∧ _ := ⟨zk BK hb, zr HO hb, zr HV hb, zb HB hb, Aside0.mk hbox, zg HB hg⟩; have NB := zn1 BK hg; have NB2 := zn2 BK hg; clear BK HO HV HB hbox hb hg; obtain ⟨BK, HO, HV, HB, B6, G6⟩ := n_; obtain ⟨z1_0, y1_0⟩ := zB1 BK; obtain ⟨z6_0, z6_1, z6_2, y6_0, y6_1, y6_2⟩ := zB3 B6))
 refine bodyPost_ret (results_ct rfl _ _ g6 29 #[.int .i8 (IntKind.i8.wrap inp), .slice Ao xs.length co, .slice Av ys.length cv] (0, 0) _ rfl (zp B6) Try.underlying29 rfl (by kernel_rfl)) rfl ?_
 exact ⟨_, zv, (zs HO B6).out, (zs HV B6).out, zbo⟩
/-- One round of the reference's adder. -/
def adStepR (b : Int) (i : Nat) (s : List S61 × List Int × Int) : List S61 × List Int × Int :=
  let x1 := s.1 ++ [nodeR 0 (i : Int) 0]
  let x2 := x1 ++ [nodeR 0 (b + (i : Int)) 0]
  let x3 := adXorR x2 (s.1.length : Int) (x1.length : Int)
  let x4 := adAndR x3 (s.1.length : Int) (x1.length : Int)
  if i = 0 then (x4, s.2.1 ++ [(x2.length : Int) + 2], (x3.length : Int) + 1)
  else
    let x5 := adXorR x4 ((x2.length : Int) + 2) s.2.2
    let x6 := adAndR x5 s.2.2 ((x2.length : Int) + 2)
    (x6 ++ [nodeR 2 ((x3.length : Int) + 1) ((x5.length : Int) + 1)], s.2.1 ++ [(x4.length : Int) + 2], (x6.length : Int))
def adR (b : Int) : Nat → List S61 × List Int × Int
  | 0 => ([], [], 0)
  | i + 1 => adStepR b i (adR b i)
theorem adXorR_len (xs : List S61) (a b : Int) : (adXorR xs a b).length = xs.length + 3 := by simp [adXorR]
theorem adAndR_len (xs : List S61) (a b : Int) : (adAndR xs a b).length = xs.length + 2 := by simp [adAndR]
theorem adR_len (b : Int) : ∀ i, (adR b i).1.length ≤ 13 * i ∧ (adR b i).2.1.length = i
  | 0 => by simp [adR]
  | i + 1 => by
    have h := adR_len b i
    simp only [adR, adStepR]
    split <;> simp only [List.length_append, adXorR_len, adAndR_len, List.length_cons, List.length_nil] <;> omega
theorem MS_app {wo : World} {gb : Nat} {xs : List S61} {v v1 : Value} {ys zs : List Int} {W w1 : World} (H : MKad 53 (Kd.int .i16) 54 wo gb xs v ys W) (ho : Kd.R (Kd.int .i16) 54 w1 wo.heap.size (fun _ => True) v1 zs) (hb : Below wo.heap.size wo w1) (hg : W.grownBy w1 v.ownBlock) : MKad 53 (Kd.int .i16) 54 wo gb xs v1 zs w1 := by
 obtain ⟨u, hbox, hR, hV, hB⟩ := H
 exact ⟨u, blk_grown hbox hg (Kd.R_ne hV hbox (by decide)), Kd.R_over' hR (Kd.R_typed hV) (by decide) hg, ho, hb⟩
theorem adR_z (b : Int) (xs x1 x2 x3 x4 : List S61) (ys : List Int) (c : Int) (h : adR b 0 = (xs, ys, c)) (e1 : x1 = xs ++ [nodeR 0 ((0 : Nat) : Int) 0]) (e2 : x2 = x1 ++ [nodeR 0 (b + ((0 : Nat) : Int)) 0]) (e3 : x3 = adXorR x2 (xs.length : Int) (x1.length : Int)) (e4 : x4 = adAndR x3 (xs.length : Int) (x1.length : Int)) : adR b (0 + 1) = (x4, ys ++ [(x2.length : Int) + 2], (x3.length : Int) + 1) := by
 subst e1 e2 e3 e4
 show adStepR b 0 (adR b 0) = _
 rw [h]
 rfl
theorem adR_s (b : Int) (i : Nat) (hi : i ≠ 0) (xs x1 x2 x3 x4 x5 x6 x7 : List S61) (ys : List Int) (c : Int) (h : adR b i = (xs, ys, c)) (e1 : x1 = xs ++ [nodeR 0 (i : Int) 0]) (e2 : x2 = x1 ++ [nodeR 0 (b + (i : Int)) 0]) (e3 : x3 = adXorR x2 (xs.length : Int) (x1.length : Int)) (e4 : x4 = adAndR x3 (xs.length : Int) (x1.length : Int)) (e5 : x5 = adXorR x4 ((x2.length : Int) + 2) c) (e6 : x6 = adAndR x5 c ((x2.length : Int) + 2)) (e7 : x7 = x6 ++ [nodeR 2 ((x3.length : Int) + 1) ((x5.length : Int) + 1)]) : adR b (i + 1) = (x7, ys ++ [(x4.length : Int) + 2], (x6.length : Int)) := by
 subst e1 e2 e3 e4 e5 e6 e7
 show adStepR b i (adR b i) = _
 rw [h]
 simp only [adStepR, if_neg hi]
theorem adWrR (i : Nat) (b : Int) (hi : i ≤ 100) (hb : 0 ≤ b ∧ b ≤ 100) : IntKind.i64.wrap (b + (i : Int)) = b + (i : Int) ∧ wrap64 (b + (i : Int)) = b + (i : Int) ∧ IntKind.i16.wrap (i : Int) = (i : Int) ∧ IntKind.i16.wrap (b + (i : Int)) = b + (i : Int) := by
 have h1 : wrap64 (b + (i : Int)) = b + (i : Int) := by unfold wrap64; omega
 exact ⟨(i64_w _).trans h1, h1, IntWalk.i16_in _ (by omega), IntWalk.i16_in _ (by omega)⟩
def spec_AdderOf.f (k : Nat) (a0 : Int) : Option (Int × (List (S61)) × List Int × Int) := if 1 ≤ a0 ∧ a0 ≤ 3 then (spec_l04Simplify.f k [(⟨IntKind.i8.wrap (2 * a0), (adR a0 a0.toNat).1, (adR a0 a0.toNat).2.1 ++ [(adR a0 a0.toNat).2.2]⟩ : S29)]).bind fun t => some (t.1, t.2.1, t.2.2, 0) else some (0, ([] : List (S61)), ([] : List Int), 2)
theorem spec_AdderOf.mono : ∀ a0 k, LeO (spec_AdderOf.f k a0) (spec_AdderOf.f (k + 1) a0) := by
 intro a0 k
 unfold spec_AdderOf.f
 exact LeO.ite (LeO.bind (spec_l04Simplify.mono _ _) (fun _ => LeO.refl _)) (LeO.refl _)
set_option maxHeartbeats 8000000 in
theorem spec_AdderOf.calls (k : Nat) (a0 : Int) (r1 : Int) (r2 : List (S61)) (r3 : List Int) (r4 : Int) (w : World) (h : spec_AdderOf.f k a0 = some (r1, r2, r3, r4)) :
    Calls Try.prog 8 #[.int .i64 a0] w fun e w' => ∃ v1_ v2_ : Value, e = .returned (.tuple #[.agg #[.int .i8 r1, v1_, v2_], .int .i64 r4]) ∧ Kd.R k61 61 w' w.heap.size (fun _ => True) v1_ r2 ∧ Kd.R (Kd.int .i16) 54 w' w.heap.size (fun _ => True) v2_ r3 ∧ Below w.heap.size w w' := by
 have HB := Aside0.mk (Below.refl w.heap.size w)
 unfold spec_AdderOf.f at h
 by_cases c : 1 ≤ a0 ∧ a0 ≤ 3
 rotate_left
 ·rw [if_neg c] at h
  simp only [Option.some.injEq, Prod.mk.injEq] at h
  obtain ⟨rfl, rfl, rfl, rfl⟩ := h
  have hin : spec_l00In.f a0 1 3 = some false := by
   unfold spec_l00In.f
   by_cases c1 : a0 ≥ 1
   ·rw [if_pos c1, decide_eq_false (by omega)]
   ·rw [if_neg c1]
  have HIN := Aside0.mk hin
  clear hin
  go_enter Try.func8, Try.ntmps8
  go_wp2_with (first | ((with_reducible refine gate_dst (N := 2) rfl ?_); refine zbx 2 #[.int .i8 0, .slice none 0 0, .slice none 0 0] 29 ?_; intro g2 hg w1 hbox hb; have n_ : _ ∧ _ ∧ _ := ⟨zbs hb, Aside0.mk hbox, zg HB hg⟩; clear HB hbox hb hg; obtain ⟨HB, B2, G2⟩ := n_) | ((with_reducible refine gate_callee (f := 23) rfl ?_); refine goesL_ (some 17) rfl rfl Try.func23 (by kernel_rfl) rfl #[.int .i64 a0, .int .i64 1, .int .i64 3] rfl zm ?_; (with_reducible refine (spec_l00In.calls a0 1 3 false _ HIN.out).mono ?_); rintro e w2 ⟨rfl, ⟨nd_, rfl⟩⟩; refine ⟨_, rfl, ?_⟩; have n1_ : Aside0 (Below w.heap.size w (w1.drewN nd_)) := zl HB; have n2_ : Aside0 ((w1.drewN nd_).heap[g2]? = some (.cells #[.int .i8 0, .slice none 0 0, .slice none 0 0] 29 (0, 0))) := zh B2; clear HB B2; generalize w1.drewN nd_ = wo at n1_ n2_ ⊢; have HB := n1_; have B2 := n2_; clear n1_ n2_; obtain ⟨z2_0, z2_1, z2_2, y2_0, y2_1, y2_2⟩ := zB3 B2))
  refine bodyPost_ret (results_ct rfl _ _ g2 29 #[.int .i8 0, .slice none 0 0, .slice none 0 0] (0, 0) _ rfl (zp B2) Try.underlying29 rfl (by kernel_rfl)) rfl ?_
  exact ⟨_, _, zv, Kd.R_nil _ _ _ _ _, Kd.R_nil _ _ _ _ _, zbo⟩
 rw [if_pos c] at h
 have hin : spec_l00In.f a0 1 3 = some true := by unfold spec_l00In.f; rw [if_pos (by omega), decide_eq_true c.2]
 have HIN := Aside0.mk hin
 obtain ⟨n, rfl⟩ := Int.eq_ofNat_of_zero_le (by omega : 0 ≤ a0)
 obtain ⟨⟨r1, r2, r3⟩, hs2, hq⟩ := Option.bind_eq_some_iff.mp h
 simp only [Option.some.injEq, Prod.mk.injEq] at hq
 obtain ⟨rfl, rfl, rfl, rfl⟩ := hq
 have H := Aside0.mk hs2
 have C : Aside0 (1 ≤ n ∧ n ≤ 3) := ⟨by omega⟩
 clear h hs2 hin c
 go_enter Try.func8, Try.ntmps8
 go_wp2_with (first | ((with_reducible refine gate_dst (N := 2) rfl ?_); refine zbx 2 #[.int .i8 0, .slice none 0 0, .slice none 0 0] 29 ?_; intro g2 hg w1 hbox hb; have n_ : _ ∧ _ ∧ _ := ⟨zbs hb, Aside0.mk hbox, zg HB hg⟩; clear HB hbox hb hg; obtain ⟨HB, B2, G2⟩ := n_) | ((with_reducible refine gate_callee (f := 23) rfl ?_); refine goesL_ (some 17) rfl rfl Try.func23 (by kernel_rfl) rfl #[.int .i64 (n : Int), .int .i64 1, .int .i64 3] rfl zm ?_; (with_reducible refine (spec_l00In.calls (n : Int) 1 3 true _ HIN.out).mono ?_); rintro e w2 ⟨rfl, ⟨nd_, rfl⟩⟩; refine ⟨_, rfl, ?_⟩; have n1_ : Aside0 (Below w.heap.size w (w1.drewN nd_)) := zl HB; have n2_ : Aside0 ((w1.drewN nd_).heap[g2]? = some (.cells #[.int .i8 0, .slice none 0 0, .slice none 0 0] 29 (0, 0))) := zh B2; clear HB B2; generalize w1.drewN nd_ = wo at n1_ n2_ ⊢; have HB := n1_; have B2 := n2_; clear n1_ n2_) | ((with_reducible refine gate_dst (N := 21) rfl ?_); refine zbx 21 #[.slice none 0 0] 53 ?_; intro gb hg w3 hbox hb; have n_ : _ ∧ _ ∧ _ := ⟨Aside0.mk hb, Aside0.mk hbox, Aside0.mk hg⟩; clear hbox hb hg; obtain ⟨HW, BG, GG⟩ := n_) | ((with_reducible refine gate_dst (N := 22) rfl ?_); refine Kd.R_lit (Kd.int .i16) (w0 := wo) wo.heap.size 54 ?hg (N := 22) ?hd (xs := ([] : List Int)) (inner := []) (ok := fun _ => True) (okp := fun _ => True) ?hr ?hp (fun _ hk => hk) trivial ?hb (zz HW) (by simp) ?_; (case hd => rfl); (case hg => rfl); (case hr => exact zgs); (case hp => exact (Reps.none _ _)); (case hb => exact zbo); intro v21 w4 ho hb hg_ hnew_; have HM : Aside0 (MKad 53 (Kd.int .i16) 54 wo gb [] v21 [] w4) := ⟨.slice none 0 0, blk_grown (zh BG).out hg_ (by simp), Kd.R_nil _ _ _ _ _, ho, hb⟩; clear BG HW hg_ hnew_ hb ho))
 have GE : Aside0 (wo.heap.size ≤ gb) := ⟨by rw [GG.out]; exact Nat.le_refl _⟩
 have hwN := (adWrI 0 (n : Int) (by omega) (by have := C.out; omega)).2.2.1
 have hwN2 := (adWrI 0 (n : Int) (by omega) (by have := C.out; omega)).2.2.2
 go_loopw [5, 6, 7] (fun v5 v6 v23 w' => ∃ (i : Nat) (xs : List S61) (ys : List Int) (cc : Int), v6 = .int .i16 cc ∧ v23 = .int .i64 (i : Int) ∧ Aside0 (i ≤ n) ∧ Aside0 (adR (n : Int) i = (xs, ys, cc)) ∧ Aside0 (MKad 53 (Kd.int .i16) 54 wo gb xs v5 ys w')) (fun _ _ v23 _ => n - (intOf v23).toNat)
 case atStart => exact ⟨0, [], [], 0, rfl, rfl, ⟨Nat.zero_le _⟩, ⟨rfl⟩, ⟨zMK HM⟩⟩
 clear HM
 obtain ⟨i, xs, ys, cc, rfl, rfl, hi, hst, HM⟩ := hrel
 have hlen := adR_len (n : Int) i
 rw [hst.out] at hlen
 by_cases c : i < n
 rotate_left
 ·have c0 : decide (i < n) = false := decide_eq_false c
  obtain rfl : n = i := by have := hi.out; omega
  have LX : Aside0 (xs.length ≤ 39) := ⟨by have := C.out; have := hlen.1; simp only at this; omega⟩
  have LY : Aside0 (ys.length ≤ 3) := ⟨by have := C.out; have := hlen.2; simp only at this; omega⟩
  obtain ⟨yz, ezs⟩ : ∃ x, x = ys ++ [cc] := ⟨_, rfl⟩
  have YS := Aside0.mk ezs
  have H2 : spec_l04Simplify.f k [(⟨IntKind.i8.wrap (2 * (n : Int)), xs, yz⟩ : S29)] = some (r1, r2, r3) := by
   have h := H.out
   rw [Int.toNat_natCast, hst.out] at h
   rw [ezs]
   exact h
  clear H
  have H := Aside0.mk H2
  clear H2 ezs hlen c
  go_wp2_with (first | ((with_reducible refine gate_builtin (b := .append) (xs := #[.tmp 73, .tmp 75]) rfl ?_); at_builtin; refine Kd.R_append (Kd.int .i16) (w0 := wo) wo.heap.size rfl (.tmp 73) (.tmp 75) 27 54 (.int .i16 0) 2 rfl Try.underlying27 info54 rfl (by decide) (by omega) u5 ys cc [.int .i16 cc] (fun _ => True) (fun _ => False) rfl rfl ?aP (fun _ hk => hk.elim) ?aF ?aO ?aB ?aS ?aL ?_; (case aP => exact rfl); (case aB => exact MK_below (zMK HM)); (case aF => exact (fun _ _ => trivial)); (case aO => exact MK_row (zMK HM)); (case aS => exact (MK_below (zMK HM)).size); (case aL => have := LY.out; omega); intro v7 w7 ho hb hg hat; have HM2 := Aside0.mk (MS_app (zMK HM) ho hb hg); clear HM ho hb hg hat; have HM := HM2; clear HM2; rw [← YS.out] at HM) | ((with_reducible refine gate_callee (f := 27) rfl ?_); refine goesL_ (some 77) rfl rfl Try.func27 (by kernel_rfl) rfl #[.pointer (some ⟨gb, 0, none⟩), .int .i64 (2 * (n : Int)), v7] rfl zm ?_; (with_reducible refine (made_calls wo gb xs v7 yz (2 * (n : Int)) _ GE.out (by have := LX.out; omega) (zMK HM)).mono ?_); rintro e w8 ⟨un, rfl, ho1, ho2, hb⟩; refine ⟨_, rfl, ?_⟩; have n_ : _ ∧ _ ∧ _ ∧ _ := ⟨Aside0.mk (Kd.R_lower ho1 HB.out.size), Aside0.mk (Kd.R_lower ho2 HB.out.size), Aside0.mk (blk_below B2.out hb), Aside0.mk (below_step HB.out hb)⟩; clear HM B2 HB ho1 ho2 hb; obtain ⟨HN, HZ, B2, HB⟩ := n_; obtain ⟨A1, c1, e1⟩ := Kd.R_slice HN.out; subst e1; obtain ⟨A2, c2, e2⟩ := Kd.R_slice HZ.out; subst e2) | ((with_reducible refine gate_dst (N := 14) rfl ?_); refine zbx 14 #[.int .i8 0, .slice none 0 0, .slice none 0 0] 29 ?_; intro g13 hg w9 hbox hb; have n_ : _ ∧ _ ∧ _ ∧ _ ∧ _ ∧ _ := ⟨zr HN hb, zr HZ hb, zk B2 hb, zbs hb, Aside0.mk hbox, zg HB hg⟩; have N2 := zn1 B2 hg; have N13 := zn2 B2 hg; clear HN HZ B2 HB hbox hb hg; obtain ⟨HN, HZ, B2, HB, B13, G13⟩ := n_; obtain ⟨z13_0, z13_1, z13_2, y13_0, y13_1, y13_2⟩ := zB3 B13) | ((with_reducible refine gate_callee (f := 28) rfl ?_); refine goesL_ (some 80) rfl rfl Try.func28 (by kernel_rfl) rfl #[.pointer (some ⟨g13, 0, none⟩)] rfl zm ?_; (with_reducible refine (spec_l04Simplify.calls k _ [(⟨IntKind.i8.wrap (2 * (n : Int)), xs, yz⟩ : S29)] r1 r2 r3 _ ?s1 H.out).mono ?_); (case s1 => refine ro_of_blk (T := 29) (cs := #[.int .i8 (IntKind.i8.wrap (2 * (n : Int))), .slice A1 xs.length c1, .slice A2 yz.length c2]) (zp B13) ?_; exact k29_mk _ (⟨IntKind.i8.wrap (2 * (n : Int)), xs, yz⟩ : S29) (Kd.R_reads' HN.out).2.1 (Kd.R_reads' (zs HN B13).out).2.2 (Kd.R_reads' HZ.out).2.1 (Kd.R_reads' (zs HZ B13).out).2.2); rintro e w10 ⟨va, vb, rfl, hoa, hob, hb⟩; refine ⟨_, rfl, ?_⟩; have n_ : _ ∧ _ ∧ _ ∧ _ := ⟨Aside0.mk (Kd.R_lower hoa (zz HB)), Aside0.mk (Kd.R_lower hob (zz HB)), zfb B2 N2 hb, zbs hb⟩; clear B2 HB HN HZ B13 hoa hob hb z13_0 z13_1 z13_2 y13_0 y13_1 y13_2; obtain ⟨HA, HC, B2, HB⟩ := n_; obtain ⟨A3, c3, e3⟩ := Kd.R_slice HA.out; subst e3; obtain ⟨A4, c4, e4⟩ := Kd.R_slice HC.out; subst e4; obtain ⟨z2_0, z2_1, z2_2, y2_0, y2_1, y2_2⟩ := zB3 B2))
  refine bodyPost_ret (results_ct rfl _ _ g2 29 #[.int .i8 r1, .slice A3 r2.length c3, .slice A4 r3.length c4] (0, 0) _ rfl (zp B2) Try.underlying29 rfl (by kernel_rfl)) rfl ?_
  exact ⟨_, _, zv, (zs HA B2).out, (zs HC B2).out, zbo⟩
 have c0 : decide (i < n) = true := decide_eq_true c
 have LI : Aside0 (i ≤ 2) := ⟨by have := C.out; omega⟩
 have L0 : Aside0 (xs.length ≤ 26) := ⟨by have := LI.out; have := hlen.1; simp only at this; omega⟩
 have LY : Aside0 (ys.length ≤ 2) := ⟨by have := LI.out; have := hlen.2; simp only at this; omega⟩
 obtain ⟨x1, e1⟩ : ∃ x, x = xs ++ [nodeR 0 (i : Int) 0] := ⟨_, rfl⟩
 obtain ⟨x2, e2⟩ : ∃ x, x = x1 ++ [nodeR 0 ((n : Int) + (i : Int)) 0] := ⟨_, rfl⟩
 obtain ⟨x3, e3⟩ : ∃ x, x = adXorR x2 (xs.length : Int) (x1.length : Int) := ⟨_, rfl⟩
 obtain ⟨x4, e4⟩ : ∃ x, x = adAndR x3 (xs.length : Int) (x1.length : Int) := ⟨_, rfl⟩
 have L1 : Aside0 (x1.length ≤ 27) := ⟨by have := L0.out; rw [e1, List.length_append]; simp only [List.length_cons, List.length_nil]; omega⟩
 have L2 : Aside0 (x2.length ≤ 28) := ⟨by have := L1.out; rw [e2, List.length_append]; simp only [List.length_cons, List.length_nil]; omega⟩
 have L3 : Aside0 (x3.length ≤ 31) := ⟨by have := L2.out; rw [e3, adXorR_len]; omega⟩
 have L4 : Aside0 (x4.length ≤ 33) := ⟨by have := L3.out; rw [e4, adAndR_len]; omega⟩
 have E1 := Aside0.mk e1
 have E2 := Aside0.mk e2
 have E3 := Aside0.mk e3
 have E4 := Aside0.mk e4
 have hw := adWrR i (n : Int) (by have := LI.out; omega) (by have := C.out; omega)
 have hwa := hw.1
 have hwb := hw.2.1
 have hwc := hw.2.2.1
 have hwd := hw.2.2.2
 have CC := Aside0.mk c
 clear e1 e2 e3 e4 hw c hlen
 by_cases hi0 : i = 0
 ·have q0 : ((i : Int) == 0) = true := beq_iff_eq.mpr (by omega)
  have HI0 := Aside0.mk hi0
  clear hi0
  go_wp2_with (first | ((with_reducible refine gate_callee (f := 24) rfl ?_); refine goesL_ (some 31) rfl rfl Try.func24 (by kernel_rfl) rfl #[.pointer (some ⟨gb, 0, none⟩), .int .i8 0, .int .i16 (i : Int), .int .i16 0] rfl zm ?_; (with_reducible refine (sadd_calls wo gb xs u5 ys 0 (i : Int) 0 _ GE.out (by have := L0.out; omega) (zMK HM)).mono ?_); rintro e w5 ⟨rfl, H1⟩; refine ⟨_, rfl, ?_⟩; rw [← E1.out] at H1; clear HM; have HM := Aside0.mk H1; clear H1) | ((with_reducible refine gate_callee (f := 24) rfl ?_); refine goesL_ (some 37) rfl rfl Try.func24 (by kernel_rfl) rfl #[.pointer (some ⟨gb, 0, none⟩), .int .i8 0, .int .i16 ((n : Int) + (i : Int)), .int .i16 0] rfl zm ?_; (with_reducible refine (sadd_calls wo gb x1 u5 ys 0 ((n : Int) + (i : Int)) 0 _ GE.out (by have := L1.out; omega) (zMK HM)).mono ?_); rintro e w5 ⟨rfl, H1⟩; refine ⟨_, rfl, ?_⟩; rw [← E2.out] at H1; clear HM; have HM := Aside0.mk H1; clear H1) | ((with_reducible refine gate_callee (f := 25) rfl ?_); refine goesL_ (some 41) rfl rfl Try.func25 (by kernel_rfl) rfl #[.pointer (some ⟨gb, 0, none⟩), .int .i16 (xs.length : Int), .int .i16 (x1.length : Int)] rfl zm ?_; (with_reducible refine (sxor_calls wo gb x2 u5 ys (xs.length : Int) (x1.length : Int) _ GE.out (by have := L2.out; omega) (zMK HM)).mono ?_); rintro e w5 ⟨rfl, H1⟩; refine ⟨_, rfl, ?_⟩; rw [← E3.out] at H1; clear HM; have HM := Aside0.mk H1; clear H1) | ((with_reducible refine gate_callee (f := 26) rfl ?_); refine goesL_ (some 45) rfl rfl Try.func26 (by kernel_rfl) rfl #[.pointer (some ⟨gb, 0, none⟩), .int .i16 (xs.length : Int), .int .i16 (x1.length : Int)] rfl zm ?_; (with_reducible refine (sand_calls wo gb x3 u5 ys (xs.length : Int) (x1.length : Int) _ GE.out (by have := L3.out; omega) (zMK HM)).mono ?_); rintro e w5 ⟨rfl, H1⟩; refine ⟨_, rfl, ?_⟩; rw [← E4.out] at H1; clear HM; have HM := Aside0.mk H1; clear H1) | ((with_reducible refine gate_builtin (b := .append) (xs := #[.tmp 48, .tmp 50]) rfl ?_); at_builtin; refine Kd.R_append (Kd.int .i16) (w0 := wo) wo.heap.size rfl (.tmp 48) (.tmp 50) 27 54 (.int .i16 0) 2 rfl Try.underlying27 info54 rfl (by decide) (by omega) u5 ys ((x2.length : Int) + 2) [.int .i16 ((x2.length : Int) + 2)] (fun _ => True) (fun _ => False) rfl rfl ?aP (fun _ hk => hk.elim) ?aF ?aO ?aB ?aS ?aL ?_; (case aP => exact rfl); (case aB => exact MK_below (zMK HM)); (case aF => exact (fun _ _ => trivial)); (case aO => exact MK_row (zMK HM)); (case aS => exact (MK_below (zMK HM)).size); (case aL => have := LY.out; omega); intro v7 w7 ho hb hg hat; have HM2 := Aside0.mk (MS_app (zMK HM) ho hb hg); clear HM ho hb hg hat; have HM := HM2; clear HM2))
  go_roundw
  case rel =>
   have h1 := LI.out
   refine ⟨i + 1, x4, ys ++ [(x2.length : Int) + 2], (x3.length : Int) + 1, rfl, congrArg (Value.int .i64) (adW64 i (by omega)), ⟨CC.out⟩, ⟨?_⟩, ⟨zMK HM⟩⟩
   have h0 := HI0.out
   have hs := hst.out
   have g1 := E1.out
   have g2_ := E2.out
   subst h0
   exact adR_z _ _ _ _ _ _ _ _ hs g1 g2_ E3.out E4.out
  have e64 := adW64 i (by have := LI.out; omega)
  rw [adIntOf, adIntOf, e64]
  exact adMeas _ _ CC.out
 have q0 : ((i : Int) == 0) = false := beq_eq_false_iff_ne.mpr (by omega)
 have HI0 := Aside0.mk hi0
 clear hi0
 obtain ⟨x5, e5⟩ : ∃ x, x = adXorR x4 ((x2.length : Int) + 2) cc := ⟨_, rfl⟩
 obtain ⟨x6, e6⟩ : ∃ x, x = adAndR x5 cc ((x2.length : Int) + 2) := ⟨_, rfl⟩
 obtain ⟨x7, e7⟩ : ∃ x, x = x6 ++ [nodeR 2 ((x3.length : Int) + 1) ((x5.length : Int) + 1)] := ⟨_, rfl⟩
 have L5 : Aside0 (x5.length ≤ 36) := ⟨by have := L4.out; rw [e5, adXorR_len]; omega⟩
 have L6 : Aside0 (x6.length ≤ 38) := ⟨by have := L5.out; rw [e6, adAndR_len]; omega⟩
 have E5 := Aside0.mk e5
 have E6 := Aside0.mk e6
 have E7 := Aside0.mk e7
 clear e5 e6 e7
 go_wp2_with (first | ((with_reducible refine gate_callee (f := 24) rfl ?_); refine goesL_ (some 31) rfl rfl Try.func24 (by kernel_rfl) rfl #[.pointer (some ⟨gb, 0, none⟩), .int .i8 0, .int .i16 (i : Int), .int .i16 0] rfl zm ?_; (with_reducible refine (sadd_calls wo gb xs u5 ys 0 (i : Int) 0 _ GE.out (by have := L0.out; omega) (zMK HM)).mono ?_); rintro e w5 ⟨rfl, H1⟩; refine ⟨_, rfl, ?_⟩; rw [← E1.out] at H1; clear HM; have HM := Aside0.mk H1; clear H1) | ((with_reducible refine gate_callee (f := 24) rfl ?_); refine goesL_ (some 37) rfl rfl Try.func24 (by kernel_rfl) rfl #[.pointer (some ⟨gb, 0, none⟩), .int .i8 0, .int .i16 ((n : Int) + (i : Int)), .int .i16 0] rfl zm ?_; (with_reducible refine (sadd_calls wo gb x1 u5 ys 0 ((n : Int) + (i : Int)) 0 _ GE.out (by have := L1.out; omega) (zMK HM)).mono ?_); rintro e w5 ⟨rfl, H1⟩; refine ⟨_, rfl, ?_⟩; rw [← E2.out] at H1; clear HM; have HM := Aside0.mk H1; clear H1) | ((with_reducible refine gate_callee (f := 25) rfl ?_); refine goesL_ (some 41) rfl rfl Try.func25 (by kernel_rfl) rfl #[.pointer (some ⟨gb, 0, none⟩), .int .i16 (xs.length : Int), .int .i16 (x1.length : Int)] rfl zm ?_; (with_reducible refine (sxor_calls wo gb x2 u5 ys (xs.length : Int) (x1.length : Int) _ GE.out (by have := L2.out; omega) (zMK HM)).mono ?_); rintro e w5 ⟨rfl, H1⟩; refine ⟨_, rfl, ?_⟩; rw [← E3.out] at H1; clear HM; have HM := Aside0.mk H1; clear H1) | ((with_reducible refine gate_callee (f := 26) rfl ?_); refine goesL_ (some 45) rfl rfl Try.func26 (by kernel_rfl) rfl #[.pointer (some ⟨gb, 0, none⟩), .int .i16 (xs.length : Int), .int .i16 (x1.length : Int)] rfl zm ?_; (with_reducible refine (sand_calls wo gb x3 u5 ys (xs.length : Int) (x1.length : Int) _ GE.out (by have := L3.out; omega) (zMK HM)).mono ?_); rintro e w5 ⟨rfl, H1⟩; refine ⟨_, rfl, ?_⟩; rw [← E4.out] at H1; clear HM; have HM := Aside0.mk H1; clear H1) | ((with_reducible refine gate_callee (f := 25) rfl ?_); refine goesL_ (some 56) rfl rfl Try.func25 (by kernel_rfl) rfl #[.pointer (some ⟨gb, 0, none⟩), .int .i16 ((x2.length : Int) + 2), .int .i16 cc] rfl zm ?_; (with_reducible refine (sxor_calls wo gb x4 u5 ys ((x2.length : Int) + 2) cc _ GE.out (by have := L4.out; omega) (zMK HM)).mono ?_); rintro e w5 ⟨rfl, H1⟩; refine ⟨_, rfl, ?_⟩; rw [← E5.out] at H1; clear HM; have HM := Aside0.mk H1; clear H1) | ((with_reducible refine gate_callee (f := 26) rfl ?_); refine goesL_ (some 60) rfl rfl Try.func26 (by kernel_rfl) rfl #[.pointer (some ⟨gb, 0, none⟩), .int .i16 cc, .int .i16 ((x2.length : Int) + 2)] rfl zm ?_; (with_reducible refine (sand_calls wo gb x5 u5 ys cc ((x2.length : Int) + 2) _ GE.out (by have := L5.out; omega) (zMK HM)).mono ?_); rintro e w5 ⟨rfl, H1⟩; refine ⟨_, rfl, ?_⟩; rw [← E6.out] at H1; clear HM; have HM := Aside0.mk H1; clear H1) | ((with_reducible refine gate_builtin (b := .append) (xs := #[.tmp 61, .tmp 63]) rfl ?_); at_builtin; refine Kd.R_append (Kd.int .i16) (w0 := wo) wo.heap.size rfl (.tmp 61) (.tmp 63) 27 54 (.int .i16 0) 2 rfl Try.underlying27 info54 rfl (by decide) (by omega) u5 ys ((x4.length : Int) + 2) [.int .i16 ((x4.length : Int) + 2)] (fun _ => True) (fun _ => False) rfl rfl ?aP (fun _ hk => hk.elim) ?aF ?aO ?aB ?aS ?aL ?_; (case aP => exact rfl); (case aB => exact MK_below (zMK HM)); (case aF => exact (fun _ _ => trivial)); (case aO => exact MK_row (zMK HM)); (case aS => exact (MK_below (zMK HM)).size); (case aL => have := LY.out; omega); intro v7 w7 ho hb hg hat; have HM2 := Aside0.mk (MS_app (zMK HM) ho hb hg); clear HM ho hb hg hat; have HM := HM2; clear HM2) | ((with_reducible refine gate_callee (f := 24) rfl ?_); refine goesL_ (some 68) rfl rfl Try.func24 (by kernel_rfl) rfl #[.pointer (some ⟨gb, 0, none⟩), .int .i8 2, .int .i16 ((x3.length : Int) + 1), .int .i16 ((x5.length : Int) + 1)] rfl zm ?_; (with_reducible refine (sadd_calls wo gb x6 v7 (ys ++ [(x4.length : Int) + 2]) 2 ((x3.length : Int) + 1) ((x5.length : Int) + 1) _ GE.out (by have := L6.out; omega) (zMK HM)).mono ?_); rintro e w5 ⟨rfl, H1⟩; refine ⟨_, rfl, ?_⟩; rw [← E7.out] at H1; clear HM; have HM := Aside0.mk H1; clear H1))
 go_roundw
 case rel =>
  have h1 := LI.out
  refine ⟨i + 1, x7, ys ++ [(x4.length : Int) + 2], (x6.length : Int), rfl, congrArg (Value.int .i64) (adW64 i (by omega)), ⟨CC.out⟩, ⟨?_⟩, ⟨zMK HM⟩⟩
  exact adR_s _ _ HI0.out _ _ _ _ _ _ _ _ _ _ hst.out E1.out E2.out E3.out E4.out E5.out E6.out E7.out
 have e64 := adW64 i (by have := LI.out; omega)
 rw [adIntOf, adIntOf, e64]
 exact adMeas _ _ CC.out
end Go.Proofs.Ytkflenibdijnaaa.PFnAdders
