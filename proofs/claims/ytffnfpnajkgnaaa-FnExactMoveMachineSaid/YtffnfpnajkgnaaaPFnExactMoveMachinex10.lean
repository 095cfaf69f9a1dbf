-- WRITTEN by xprint.py, a program of this session's. Not trusted: Lean checks it.
-- packed by pack.py
import Derived.Test.YtffnfpnajkgnaaaPFnExactMoveMachinex0
import Derived.Test.YtffnfpnajkgnaaaPFnExactMoveMachinex7
import Derived.Test.YtffnfpnajkgnaaaPFnExactMoveMachinex8
import Derived.Test.YtffnfpnajkgnaaaPFnExactMoveMachinex9
import Derived.Test.YtffnfpnajkgnaaaTFnExactMoveMachinea
namespace Go.Proofs.Ytffnfpnajkgnaaa.PFnExactMoveMachine
open Go.RowKit Go.Proofs.YtffnfpnajkgnaaaW.PrintWords Go.Proofs.YtffnfpnajkgnaaaW.PrintLast Go.Proofs.YtffnfpnajkgnaaaW.PrintMore Go.Proofs.YtffnfpnajkgnaaaX
attribute [local go_sem] max2_int min2_int max_two min_two max_three min_three max_four min_four   -- for this text's walks alone
set_option maxHeartbeats 8000000
set_option maxRecDepth 100000
set_option linter.unusedVariables false
set_option linter.unusedSimpArgs false

mutual
def spec_MoveBoard.j0 : Nat → Int → Int → Bool → Int → Int → List (S91) → Option (Int × Int × (List (S91)) × Int)
  | 0, _, _, _, _, _, _ => none
  | k + 1, x1, x2, x21, x251000, x251001, x251002 => if x21 = true then (some (0, 0, ([] : List (S91)), 2)) else ((spec_l01Copy.f [(⟨x251000, x251001, x251002⟩ : S37)]).bind fun bt255 => (spec_MoveBoard.l0 k x1 x2 0 bt255.1 bt255.2.1 bt255.2.2))
def spec_MoveBoard.l0 : Nat → Int → Int → Int → Int → Int → List (S91) → Option (Int × Int × (List (S91)) × Int)
  | 0, _, _, _, _, _, _ => none
  | k + 1, x1, x2, x9, x261000, x261001, x261002 => if x9 < (x261002.length : Int) then (if 0 ≤ x9 then ((some (x261002.set (x9 : Int).toNat (⟨(⟨IntKind.i8.wrap (((rd_T91 x261002 x9).f0.f0) + (IntKind.i8.wrap (x1))), (rd_T91 x261002 x9).f0.f1⟩ : S74), (rd_T91 x261002 x9).f1, (rd_T91 x261002 x9).f2, (rd_T91 x261002 x9).f3⟩ : S91) : List (S91))).bind fun y263 => (spec_MoveBoard.l0 k x1 x2 (wrap64 (x9 + 1)) x261000 x261001 (y263.set (x9 : Int).toNat (⟨(⟨(rd_T91 y263 x9).f0.f0, IntKind.i8.wrap (((rd_T91 y263 x9).f0.f1) + (IntKind.i8.wrap (x2)))⟩ : S74), (rd_T91 y263 x9).f1, (rd_T91 y263 x9).f2, (rd_T91 y263 x9).f3⟩ : S91)))) else (none)) else ((spec_l01Ok.f k [(⟨x261000, x261001, x261002⟩ : S37)]).bind fun t266 => (if t266 = true then (some (x261000, x261001, x261002, 0)) else (some (0, 0, ([] : List (S91)), 4))))
end
def spec_MoveBoard.f (k : Nat) (a0_0 : Int) (a0_1 : Int) (l0_2 : List (S91)) (a1 : Int) (a2 : Int) : Option (Int × Int × (List (S91)) × Int) := (spec_l01Ok.f k [(⟨a0_0, a0_1, l0_2⟩ : S37)]).bind fun t252 => (if t252 = true then ((spec_l00In.f a1 (-24) 24).bind fun t253 => (if t253 = true then ((spec_l00In.f a2 (-24) 24).bind fun t254 => (spec_MoveBoard.j0 k a1 a2 (!t254) a0_0 a0_1 l0_2)) else (spec_MoveBoard.j0 k a1 a2 true a0_0 a0_1 l0_2))) else (some (0, 0, ([] : List (S91)), 1)))
theorem spec_MoveBoard.mono_l : ∀ k, (∀ y0 y1 y2 y3 y4 y5, LeO (spec_MoveBoard.j0 k y0 y1 y2 y3 y4 y5) (spec_MoveBoard.j0 (k + 1) y0 y1 y2 y3 y4 y5)) ∧ (∀ y0 y1 y2 y3 y4 y5, LeO (spec_MoveBoard.l0 k y0 y1 y2 y3 y4 y5) (spec_MoveBoard.l0 (k + 1) y0 y1 y2 y3 y4 y5))
  | 0 => ⟨fun _ _ _ _ _ _ r h => by simp [spec_MoveBoard.j0] at h, fun _ _ _ _ _ _ r h => by simp [spec_MoveBoard.l0] at h⟩
  | k + 1 => by
    obtain ⟨ih0, ih1⟩ := spec_MoveBoard.mono_l k
    refine ⟨?_, ?_⟩
    · intro y0 y1 y2 y3 y4 y5
      unfold spec_MoveBoard.j0
      repeat' first | (with_reducible first | apply ih0 | apply ih1 | apply spec_l01Ok.mono | exact LeO.refl _ | exact LeO.none _ | refine LeO.ite ?_ ?_ | refine LeO.bind ?_ (fun _ => ?_)) | apply ih0 | apply ih1 | apply spec_l01Ok.mono | exact LeO.none _ | refine LeO.ite ?_ ?_ | refine LeO.bind ?_ (fun _ => ?_)
    · intro y0 y1 y2 y3 y4 y5
      unfold spec_MoveBoard.l0
      repeat' first | (with_reducible first | apply ih0 | apply ih1 | apply spec_l01Ok.mono | exact LeO.refl _ | exact LeO.none _ | refine LeO.ite ?_ ?_ | refine LeO.bind ?_ (fun _ => ?_)) | apply ih0 | apply ih1 | apply spec_l01Ok.mono | exact LeO.none _ | refine LeO.ite ?_ ?_ | refine LeO.bind ?_ (fun _ => ?_)
theorem spec_MoveBoard.mono : ∀ a0 a1 a2 a3 a4 k, LeO (spec_MoveBoard.f k a0 a1 a2 a3 a4) (spec_MoveBoard.f (k + 1) a0 a1 a2 a3 a4) := by
 intro a0 a1 a2 a3 a4 k
 obtain ⟨ih0, ih1⟩ := spec_MoveBoard.mono_l k
 unfold spec_MoveBoard.f
 repeat' first | (with_reducible first | apply ih0 | apply ih1 | apply spec_l01Ok.mono | exact LeO.refl _ | exact LeO.none _ | refine LeO.ite ?_ ?_ | refine LeO.bind ?_ (fun _ => ?_)) | apply ih0 | apply ih1 | apply spec_l01Ok.mono | exact LeO.none _ | refine LeO.ite ?_ ?_ | refine LeO.bind ?_ (fun _ => ?_)
def spec_MoveBoard.T10 : Bool × List (List Nat × List Nat) := (true, [([], []), ([0], [0]), ([1], [1]), ([2], [2]), ([], []), ([4], [4]), ([3, 5], [3, 5]), ([0], [0]), ([7, 0, 1, 2, 3, 4, 5, 6], [7]), ([8, 6, 0, 1, 2, 3, 4, 5, 6], [6, 8])])
def spec_MoveBoard.B10 : List Nat := [0, 1, 3, 7, 0, 16, 63, 1, 255, 511]
theorem spec_MoveBoard.tab10 : rtab .any (opsOf Try.f62 10) = spec_MoveBoard.T10 := by kernel_rfl
theorem spec_MoveBoard.bits10 : waitsOk spec_MoveBoard.T10.2 spec_MoveBoard.B10 = true := by kernel_rfl
def spec_MoveBoard.T11 : Bool × List (List Nat × List Nat) := (true, [([], []), ([0], [0]), ([1], [1]), ([2], [2]), ([], []), ([4], [4]), ([3, 5], [3, 5]), ([0], [0]), ([7, 0, 1, 2, 3, 4, 5, 6], [7]), ([8, 6, 0, 1, 2, 3, 4, 5, 6], [6, 8])])
def spec_MoveBoard.B11 : List Nat := [0, 1, 3, 7, 0, 16, 63, 1, 255, 511]
theorem spec_MoveBoard.tab11 : rtab .any (opsOf Try.f62 11) = spec_MoveBoard.T11 := by kernel_rfl
theorem spec_MoveBoard.bits11 : waitsOk spec_MoveBoard.T11.2 spec_MoveBoard.B11 = true := by kernel_rfl
theorem spec_MoveBoard.calls (k : Nat) (a0_0 : Int) (a0_1 : Int) (A0_2 : Option Addr) (c0_2 : Nat) (l0_2 : List (S91)) (a1 : Int) (a2 : Int) (r1 : Int) (r2 : Int) (r3 : List (S91)) (r4 : Int) (w : World) (hr0_2 : Kd.C k91 w A0_2 l0_2.length l0_2) (hc0_2 : l0_2.length ≤ c0_2) (h : spec_MoveBoard.f k a0_0 a0_1 l0_2 a1 a2 = some (r1, r2, r3, r4)) :
    Calls Try.prog 62 #[.agg #[.int .i8 a0_0, .int .i8 a0_1, .slice A0_2 l0_2.length c0_2], .int .i64 a1, .int .i64 a2] w fun e w' => ∃ v2_ : Value, e = .returned (.tuple #[.agg #[.int .i8 r1, .int .i8 r2, v2_], .int .i64 r4]) ∧ Kd.R k91 91 w' w.heap.size (fun _ => True) v2_ r3 ∧ Below w.heap.size w w' := by
 have hu37 := Try.underlying37
 have HR0_2 := Aside0.mk hr0_2
 have HC0_2 := Aside0.mk hc0_2
 clear hr0_2 hc0_2
 have HB := Aside0.mk (Below.refl w.heap.size w)
 have H : ((spec_l01Ok.f k [(⟨a0_0, a0_1, l0_2⟩ : S37)]).bind fun t252 => (if t252 = true then ((spec_l00In.f a1 (-24) 24).bind fun t253 => (if t253 = true then ((spec_l00In.f a2 (-24) 24).bind fun t254 => (spec_MoveBoard.j0 k a1 a2 (!t254) a0_0 a0_1 l0_2)) else (spec_MoveBoard.j0 k a1 a2 true a0_0 a0_1 l0_2))) else (some (0, 0, ([] : List (S91)), 1)))) = some (r1, r2, r3, r4) := h
 clear h
 replace H := zob H
 obtain ⟨t252, A40, H⟩ := H
 replace H : (if t252 = true then ((spec_l00In.f a1 (-24) 24).bind fun t253 => (if t253 = true then ((spec_l00In.f a2 (-24) 24).bind fun t254 => (spec_MoveBoard.j0 k a1 a2 (!t254) a0_0 a0_1 l0_2)) else (spec_MoveBoard.j0 k a1 a2 true a0_0 a0_1 l0_2))) else (some (0, 0, ([] : List (S91)), 1))) = some (r1, r2, r3, r4) := H
 have A4 := Aside0.mk A40
 clear A40
 by_cases c5 : t252 = true
 rotate_left
 ·replace c5 := Bool.eq_false_iff.mpr c5
  subst c5
  have H1 : (some (0, 0, ([] : List (S91)), 1)) = some (r1, r2, r3, r4) := by rw [if_neg (show ¬ (false = true) by decide)] at H; exact H
  clear H
  have H := H1
  clear H1
  simp only [Option.some.injEq, Prod.mk.injEq] at H
  obtain ⟨rfl, rfl, rfl, rfl⟩ := H
  go_enter Try.func62, Try.ntmps62
  go_wp2_with (first | ((with_reducible refine gate_dst (N := 3) rfl ?_); refine zbx 3 #[.int .i8 a0_0, .int .i8 a0_1, .slice A0_2 l0_2.length c0_2] 37 ?_; intro gb250 hg w53 hbox hb; have n_ : _ ∧ _ ∧ _ ∧ _ := ⟨zb HB hb, Aside0.mk (hbox), zg HB hg, zg HB hg⟩; clear HB; obtain ⟨HB, BK250, GW250, GE250⟩ := n_; clear hb hbox hg) | ((with_reducible refine gate_dst (N := 6) rfl ?_); refine zbx 6 #[.int .i8 0, .int .i8 0, .slice none 0 0] 37 ?_; intro gb251 hg w54 hbox hb; have n_ : _ ∧ _ ∧ _ ∧ _ ∧ _ ∧ _ ∧ _ := ⟨zk BK250 hb, zbs hb, Aside0.mk (hbox), zg HB hg, zg HB hg, zn1 BK250 hg, zn2 BK250 hg⟩; clear BK250 HB; obtain ⟨BK250, HB, BK251, GW251, GE251, NB250_251, NB251_250⟩ := n_; clear hb hbox hg) | ((with_reducible refine gate_callee (f := 106) rfl ?_); refine goesL_ (some 11) rfl rfl Try.func106 (by kernel_rfl) rfl #[.pointer (some ⟨gb250, 0, none⟩)] rfl zm ?_; (with_reducible refine (spec_l01Ok.calls k _ [(⟨a0_0, a0_1, l0_2⟩ : S37)] false _ ?side1 A4.out).mono ?_); (case side1 => refine ro_of_blk (T := 37) (cs := #[.int .i8 a0_0, .int .i8 a0_1, .slice A0_2 l0_2.length c0_2]) (zh BK250).out ?_; exact k37_mk _ (⟨a0_0, a0_1, l0_2⟩ : S37) (by exact HC0_2.out) (by exact zcc HB HR0_2.out)); rintro e w55 ⟨rfl, hb⟩; refine ⟨_, rfl, ?_⟩; have n_ : _ ∧ _ ∧ _ := ⟨zk BK250 hb, zk BK251 hb, zbs hb⟩; clear BK250 BK251 HB; obtain ⟨BK250, BK251, HB⟩ := n_; (try clear hb); (try clear hb2); (try clear hk); (try clear hi); have hnb56 := NB251_250.out; have hnc56 := NB250_251.out; obtain ⟨z57_0, z57_1, z57_2, y57_0, y57_1, y57_2⟩ := zB3 BK251))
  refine bodyPost_ret (results_ct rfl _ _ gb251 37 #[.int .i8 0, .int .i8 0, .slice none 0 0] (0, 0) _ rfl (zp BK251) Try.underlying37 rfl (by kernel_rfl)) rfl ?_
  exact ⟨_, zv, by first | exact Kd.R_nil _ _ _ _ _ | exact Kd.N_nil _ _ _ _ _ | exact Kd.V_nil _ _ _ _ _ | exact Kd.Q_nil _ _ _ _ _ | exact Kd.S_nil _ _ _ _ _, zbo⟩
 subst c5
 have H1 : ((spec_l00In.f a1 (-24) 24).bind fun t253 => (if t253 = true then ((spec_l00In.f a2 (-24) 24).bind fun t254 => (spec_MoveBoard.j0 k a1 a2 (!t254) a0_0 a0_1 l0_2)) else (spec_MoveBoard.j0 k a1 a2 true a0_0 a0_1 l0_2))) = some (r1, r2, r3, r4) := by rw [if_pos rfl] at H; exact H
 clear H
 have H := H1
 clear H1
 have HC6 := Aside0.mk H
 clear H
 go_enter Try.func62, Try.ntmps62
 go_upto_region 3 with (first | ((with_reducible refine gate_dst (N := 3) rfl ?_); refine zbx 3 #[.int .i8 a0_0, .int .i8 a0_1, .slice A0_2 l0_2.length c0_2] 37 ?_; intro gb250 hg w7 hbox hb; have n_ : _ ∧ _ ∧ _ ∧ _ := ⟨zb HB hb, Aside0.mk (hbox), zg HB hg, zg HB hg⟩; clear HB; obtain ⟨HB, BK250, GW250, GE250⟩ := n_; clear hb hbox hg) | ((with_reducible refine gate_dst (N := 6) rfl ?_); refine zbx 6 #[.int .i8 0, .int .i8 0, .slice none 0 0] 37 ?_; intro gb251 hg w8 hbox hb; have n_ : _ ∧ _ ∧ _ ∧ _ ∧ _ ∧ _ ∧ _ := ⟨zk BK250 hb, zbs hb, Aside0.mk (hbox), zg HB hg, zg HB hg, zn1 BK250 hg, zn2 BK250 hg⟩; clear BK250 HB; obtain ⟨BK250, HB, BK251, GW251, GE251, NB250_251, NB251_250⟩ := n_; clear hb hbox hg) | ((with_reducible refine gate_callee (f := 106) rfl ?_); refine goesL_ (some 11) rfl rfl Try.func106 (by kernel_rfl) rfl #[.pointer (some ⟨gb250, 0, none⟩)] rfl zm ?_; (with_reducible refine (spec_l01Ok.calls k _ [(⟨a0_0, a0_1, l0_2⟩ : S37)] true _ ?side1 A4.out).mono ?_); (case side1 => refine ro_of_blk (T := 37) (cs := #[.int .i8 a0_0, .int .i8 a0_1, .slice A0_2 l0_2.length c0_2]) (zh BK250).out ?_; exact k37_mk _ (⟨a0_0, a0_1, l0_2⟩ : S37) (by exact HC0_2.out) (by exact zcc HB HR0_2.out)); rintro e w9 ⟨rfl, hb⟩; refine ⟨_, rfl, ?_⟩; have n_ : _ ∧ _ ∧ _ := ⟨zk BK250 hb, zk BK251 hb, zbs hb⟩; clear BK250 BK251 HB; obtain ⟨BK250, BK251, HB⟩ := n_; (try clear hb); (try clear hb2); (try clear hk); (try clear hi)))
 (try simp only [Act.put, List.setIfInBounds_toArray, List.set_cons_zero, List.set_cons_succ])
 go_cut [21] (fun v21 wc => ∃ (kq : Nat) (x21_5 : Bool), v21 = .bool x21_5 ∧ Aside0 (spec_MoveBoard.j0 kq a1 a2 x21_5 a0_0 a0_1 l0_2 = some (r1, r2, r3, r4)) ∧ Aside0 (kq ≤ k) ∧ Aside0 (wc.heap[gb250]? = some (.cells #[.int .i8 a0_0, .int .i8 a0_1, (.slice A0_2 l0_2.length c0_2)] 37 (0, 0))) ∧ Aside0 (wc.heap[gb251]? = some (.cells #[.int .i8 0, .int .i8 0, (.slice none 0 0)] 37 (0, 0))) ∧ Aside0 (Below w.heap.size w wc))
 case first =>
  have H := HC6.out
  clear HC6
  replace H := zob H
  obtain ⟨t253, A100, H⟩ := H
  replace H : (if t253 = true then ((spec_l00In.f a2 (-24) 24).bind fun t254 => (spec_MoveBoard.j0 k a1 a2 (!t254) a0_0 a0_1 l0_2)) else (spec_MoveBoard.j0 k a1 a2 true a0_0 a0_1 l0_2)) = some (r1, r2, r3, r4) := H
  have A10 := Aside0.mk A100
  clear A100
  by_cases c11 : t253 = true
  rotate_left
  ·replace c11 := Bool.eq_false_iff.mpr c11
   subst c11
   have H1 : (spec_MoveBoard.j0 k a1 a2 true a0_0 a0_1 l0_2) = some (r1, r2, r3, r4) := by rw [if_neg (show ¬ (false = true) by decide)] at H; exact H
   clear H
   have H := H1
   clear H1
   have H' := Aside0.mk H
   clear H
   go_wp2_with (first | ((with_reducible refine gate_callee (f := 96) rfl ?_); refine goesL_ (some 15) rfl rfl Try.func96 (by kernel_rfl) rfl #[.int .i64 a1, .int .i64 (-24), .int .i64 24] rfl zm ?_; (with_reducible refine (spec_l00In.calls a1 (-24) 24 false _ A10.out).mono ?_); rintro e w' ⟨rfl, ⟨nd, rfl⟩⟩; refine ⟨_, rfl, ?_⟩))
   go_meet
   case rel => exact ⟨_, (true), zi, H', ⟨by first | omega | exact Nat.le_refl _⟩, zh BK250, zh BK251, zba⟩
  subst c11
  have H1 : ((spec_l00In.f a2 (-24) 24).bind fun t254 => (spec_MoveBoard.j0 k a1 a2 (!t254) a0_0 a0_1 l0_2)) = some (r1, r2, r3, r4) := by rw [if_pos rfl] at H; exact H
  clear H
  have H := H1
  clear H1
  replace H := zob H
  obtain ⟨t254, A120, H⟩ := H
  replace H : (spec_MoveBoard.j0 k a1 a2 (!t254) a0_0 a0_1 l0_2) = some (r1, r2, r3, r4) := H
  have A12 := Aside0.mk A120
  clear A120
  have H' := Aside0.mk H
  clear H
  go_wp2_with (first | ((with_reducible refine gate_callee (f := 96) rfl ?_); refine goesL_ (some 15) rfl rfl Try.func96 (by kernel_rfl) rfl #[.int .i64 a1, .int .i64 (-24), .int .i64 24] rfl zm ?_; (with_reducible refine (spec_l00In.calls a1 (-24) 24 true _ A10.out).mono ?_); rintro e w' ⟨rfl, ⟨nd, rfl⟩⟩; refine ⟨_, rfl, ?_⟩) | (go_at_call 96; (with_reducible refine (spec_l00In.calls a2 (-24) 24 t254 _ A12.out).mono ?_); rintro e w' ⟨rfl, ⟨nd, rfl⟩⟩))
  go_meet
  case rel => exact ⟨_, (!t254), zi, H', ⟨by first | omega | exact Nat.le_refl _⟩, zh BK250, zh BK251, zba⟩
 clear HC6
 try clear c1
 try clear p2
 try clear c5
 try clear c6
 try clear c9
 try clear c10
 try clear c11
 obtain ⟨kq, x21_5, rfl, HA, HJ5, BK250, BK251, HB⟩ := hcut
 cases kq with
 | zero => exact absurd HA.out (by simp [spec_MoveBoard.j0])
 | succ kj5 => ?_
 have H := HA.out
 clear HA
 simp only [spec_MoveBoard.j0] at H
 by_cases c13 : x21_5 = true
 ·subst c13
  have H1 : (some (0, 0, ([] : List (S91)), 2)) = some (r1, r2, r3, r4) := by rw [if_pos rfl] at H; exact H
  clear H
  have H := H1
  clear H1
  simp only [Option.some.injEq, Prod.mk.injEq] at H
  obtain ⟨rfl, rfl, rfl, rfl⟩ := H
  have hnb14 := NB251_250.out
  have hnc14 := NB250_251.out
  obtain ⟨z15_0, z15_1, z15_2, y15_0, y15_1, y15_2⟩ := zB3 BK251
  go_wp2
  refine bodyPost_ret (results_ct rfl _ _ gb251 37 #[.int .i8 0, .int .i8 0, .slice none 0 0] (0, 0) _ rfl (zp BK251) Try.underlying37 rfl (by kernel_rfl)) rfl ?_
  exact ⟨_, zv, by first | exact Kd.R_nil _ _ _ _ _ | exact Kd.N_nil _ _ _ _ _ | exact Kd.V_nil _ _ _ _ _ | exact Kd.Q_nil _ _ _ _ _ | exact Kd.S_nil _ _ _ _ _, zbo⟩
 replace c13 := Bool.eq_false_iff.mpr c13
 subst c13
 have H1 : ((spec_l01Copy.f [(⟨a0_0, a0_1, l0_2⟩ : S37)]).bind fun bt255 => (spec_MoveBoard.l0 kj5 a1 a2 0 bt255.1 bt255.2.1 bt255.2.2)) = some (r1, r2, r3, r4) := by rw [if_neg (show ¬ (false = true) by decide)] at H; exact H
 clear H
 have H := H1
 clear H1
 replace H := zob H
 obtain ⟨⟨t255, t256, t257⟩, A160, H⟩ := H
 replace H : (spec_MoveBoard.l0 kj5 a1 a2 0 t255 t256 t257) = some (r1, r2, r3, r4) := H
 have A16 := Aside0.mk A160
 clear A160
 have H' := Aside0.mk H
 clear H
 go_wp2_with (first | ((with_reducible refine gate_callee (f := 131) rfl ?_); refine goesL_ (some 23) rfl rfl Try.func131 (by kernel_rfl) rfl #[.pointer (some ⟨gb250, 0, none⟩)] rfl zm ?_; (with_reducible refine (spec_l01Copy.calls _ [(⟨a0_0, a0_1, l0_2⟩ : S37)] t255 t256 t257 _ ?side1 A16.out).mono ?_); (case side1 => refine ro_of_blk (T := 37) (cs := #[.int .i8 a0_0, .int .i8 a0_1, .slice A0_2 l0_2.length c0_2]) (zh BK250).out ?_; exact k37_mk _ (⟨a0_0, a0_1, l0_2⟩ : S37) (by exact HC0_2.out) (by exact zcc HB HR0_2.out)); rintro e w17 ⟨v258, rfl, ho0, hb⟩; refine ⟨_, rfl, ?_⟩; have n_ : _ ∧ _ ∧ _ ∧ _ := ⟨Aside0.mk (Kd.R_lower ho0 (zz HB)), zk BK250 hb, zk BK251 hb, zbs hb⟩; clear BK250 BK251 HB; obtain ⟨HO259, BK250, BK251, HB⟩ := n_; (try clear hb); (try clear hb2); (try clear hk); (try clear hi); (try clear ho0)) | ((with_reducible refine gate_dst (N := 8) rfl ?_); refine zbx 8 #[.int .i8 0, .int .i8 0, .slice none 0 0] 37 ?_; intro gb260 hg w18 hbox hb; have n_ : _ ∧ _ ∧ _ ∧ _ ∧ _ ∧ _ ∧ _ ∧ _ ∧ _ ∧ _ ∧ _ := ⟨zr HO259 hb, zk BK250 hb, zk BK251 hb, zbs hb, Aside0.mk (hbox), zg HB hg, zg HB hg, zn1 BK250 hg, zn2 BK250 hg, zn1 BK251 hg, zn2 BK251 hg⟩; clear HO259 BK250 BK251 HB; obtain ⟨HO259, BK250, BK251, HB, BK260, GW260, GE260, NB250_260, NB260_250, NB251_260, NB260_251⟩ := n_; clear hb hbox hg; have hnb19 := NB260_250.out; have hnc19 := NB250_260.out; have hnb20 := NB260_251.out; have hnc20 := NB251_260.out; obtain ⟨z21_0, z21_1, z21_2, y21_0, y21_1, y21_2⟩ := zB3 BK260; obtain ⟨Ao22, co22, eo22⟩ := Kd.R_slice HO259.out; subst eo22))
 go_loopg [9] kj5 (fun kq v9 w' => ∃ (x9_2 : Int) (x261002_2 : List (S91)) (u261002 : Value), v9 = .int .i64 x9_2 ∧ Aside0 (spec_MoveBoard.l0 kq a1 a2 x9_2 t255 t256 x261002_2 = some (r1, r2, r3, r4)) ∧ Aside0 (kq ≤ kj5) ∧ Aside0 (Kd.R k91 91 w' w.heap.size (fun _ => True) u261002 x261002_2) ∧ Aside0 (w'.heap[gb250]? = some (.cells #[.int .i8 a0_0, .int .i8 a0_1, (.slice A0_2 l0_2.length c0_2)] 37 (0, 0))) ∧ Aside0 (w'.heap[gb251]? = some (.cells #[.int .i8 0, .int .i8 0, (.slice none 0 0)] 37 (0, 0))) ∧ Aside0 (w'.heap[gb260]? = some (.cells #[.int .i8 t255, .int .i8 t256, u261002] 37 (0, 0))) ∧ Aside0 (Below w.heap.size w w'))
 case atStart => exact ⟨(0), (t257), (.slice Ao22 t257.length co22), zi, H', ⟨Nat.le_refl _⟩, ⟨Kd.R_mono (zs HO259 BK260).out (fun _ hk => trivial)⟩, zf BK250 NB250_260, zf BK251 NB251_260, ⟨zp BK260⟩, zba⟩
 clear H'
 try clear c1
 try clear c2
 try clear p2
 try clear c5
 try clear c6
 try clear c9
 try clear c10
 try clear c11
 try clear c13
 try clear c14
 try clear c19
 try clear c20
 try clear z15_0 z15_1 z15_2
 try clear z21_0 z21_1 z21_2
 try clear y15_0
 try clear y15_1
 try clear y15_2
 try clear y21_0
 try clear y21_1
 try clear y21_2
 try clear p2
 obtain ⟨x9_2, x261002_2, u261002, rfl, HA, HK2, HO_261002, BK250, BK251, BK260, HB⟩ := hrel
 cases gk with
 | zero => exact absurd HA.out (by simp [spec_MoveBoard.l0])
 | succ k2 => ?_
 have H := HA.out
 clear HA
 simp only [spec_MoveBoard.l0] at H
 by_cases c23 : x9_2 < (x261002_2.length : Int)
 rotate_left
 ·rw [if_neg c23] at H
  have c23b0 : decide (x9_2 < (x261002_2.length : Int)) = false := decide_eq_false c23
  clear c23
  replace H := zob H
  obtain ⟨t266, A360, H⟩ := H
  replace H : (if t266 = true then (some (t255, t256, x261002_2, 0)) else (some (0, 0, ([] : List (S91)), 4))) = some (r1, r2, r3, r4) := H
  have A36 := Aside0.mk A360
  clear A360
  by_cases c37 : t266 = true
  rotate_left
  ·replace c37 := Bool.eq_false_iff.mpr c37
   subst c37
   have H1 : (some (0, 0, ([] : List (S91)), 4)) = some (r1, r2, r3, r4) := by rw [if_neg (show ¬ (false = true) by decide)] at H; exact H
   clear H
   have H := H1
   clear H1
   simp only [Option.some.injEq, Prod.mk.injEq] at H
   obtain ⟨rfl, rfl, rfl, rfl⟩ := H
   have hnb46 := NB260_250.out
   have hnc46 := NB250_260.out
   have hnb47 := NB260_251.out
   have hnc47 := NB251_260.out
   obtain ⟨z48_0, z48_1, z48_2, y48_0, y48_1, y48_2⟩ := zB3 BK260
   obtain ⟨Ao49, co49, eo49⟩ := Kd.R_slice HO_261002.out
   subst eo49
   go_wp2_with (first | ((with_reducible refine gate_callee (f := 106) rfl ?_); refine goesL_ (some 54) rfl rfl Try.func106 (by kernel_rfl) rfl #[.pointer (some ⟨gb260, 0, none⟩)] rfl zm ?_; (with_reducible refine (spec_l01Ok.calls k2 _ [(⟨t255, t256, x261002_2⟩ : S37)] false _ ?side1 A36.out).mono ?_); (case side1 => refine ro_of_blk (T := 37) (cs := #[.int .i8 t255, .int .i8 t256, .slice Ao49 x261002_2.length co49]) (zh BK260).out ?_; exact k37_mk _ (⟨t255, t256, x261002_2⟩ : S37) (by exact (Kd.R_reads' HO_261002.out).2.1) (by exact zrc HO_261002)); rintro e w50 ⟨rfl, hb⟩; refine ⟨_, rfl, ?_⟩; have n_ : _ ∧ _ ∧ _ ∧ _ ∧ _ := ⟨zr HO_261002 hb, zk BK250 hb, zk BK251 hb, zk BK260 hb, zbs hb⟩; clear HO_261002 BK250 BK251 BK260 HB; obtain ⟨HO_261002, BK250, BK251, BK260, HB⟩ := n_; (try clear hb); (try clear hb2); (try clear hk); (try clear hi); have hnb51 := NB251_250.out; have hnc51 := NB250_251.out; obtain ⟨z52_0, z52_1, z52_2, y52_0, y52_1, y52_2⟩ := zB3 BK251))
   refine bodyPost_ret (results_ct rfl _ _ gb251 37 #[.int .i8 0, .int .i8 0, .slice none 0 0] (0, 0) _ rfl (zp BK251) Try.underlying37 rfl (by kernel_rfl)) rfl ?_
   exact ⟨_, zv, by first | exact Kd.R_nil _ _ _ _ _ | exact Kd.N_nil _ _ _ _ _ | exact Kd.V_nil _ _ _ _ _ | exact Kd.Q_nil _ _ _ _ _ | exact Kd.S_nil _ _ _ _ _, zbo⟩
  subst c37
  have H1 : (some (t255, t256, x261002_2, 0)) = some (r1, r2, r3, r4) := by rw [if_pos rfl] at H; exact H
  clear H
  have H := H1
  clear H1
  simp only [Option.some.injEq, Prod.mk.injEq] at H
  obtain ⟨rfl, rfl, rfl, rfl⟩ := H
  have hnb38 := NB260_250.out
  have hnc38 := NB250_260.out
  have hnb39 := NB260_251.out
  have hnc39 := NB251_260.out
  obtain ⟨z40_0, z40_1, z40_2, y40_0, y40_1, y40_2⟩ := zB3 BK260
  obtain ⟨Ao41, co41, eo41⟩ := Kd.R_slice HO_261002.out
  subst eo41
  go_wp2_with (first | ((with_reducible refine gate_callee (f := 106) rfl ?_); refine goesL_ (some 54) rfl rfl Try.func106 (by kernel_rfl) rfl #[.pointer (some ⟨gb260, 0, none⟩)] rfl zm ?_; (with_reducible refine (spec_l01Ok.calls k2 _ [(⟨t255, t256, x261002_2⟩ : S37)] true _ ?side1 A36.out).mono ?_); (case side1 => refine ro_of_blk (T := 37) (cs := #[.int .i8 t255, .int .i8 t256, .slice Ao41 x261002_2.length co41]) (zh BK260).out ?_; exact k37_mk _ (⟨t255, t256, x261002_2⟩ : S37) (by exact (Kd.R_reads' HO_261002.out).2.1) (by exact zrc HO_261002)); rintro e w42 ⟨rfl, hb⟩; refine ⟨_, rfl, ?_⟩; have n_ : _ ∧ _ ∧ _ ∧ _ ∧ _ := ⟨zr HO_261002 hb, zk BK250 hb, zk BK251 hb, zk BK260 hb, zbs hb⟩; clear HO_261002 BK250 BK251 BK260 HB; obtain ⟨HO_261002, BK250, BK251, BK260, HB⟩ := n_; (try clear hb); (try clear hb2); (try clear hk); (try clear hi); obtain ⟨z43_0, z43_1, z43_2, y43_0, y43_1, y43_2⟩ := zB3 BK260; have hnb44 := NB251_250.out; have hnc44 := NB250_251.out; obtain ⟨z45_0, z45_1, z45_2, y45_0, y45_1, y45_2⟩ := zB3 BK251))
  refine bodyPost_ret (results_ct rfl _ _ gb251 37 #[.int .i8 t255, .int .i8 t256, .slice Ao41 x261002_2.length co41] (0, 0) _ rfl (zp BK251) Try.underlying37 rfl (by kernel_rfl)) rfl ?_
  exact ⟨_, zv, Kd.R_mono (zs HO_261002 BK251).out (fun _ hk => trivial), zbo⟩
 rw [if_pos c23] at H
 have c23b0 : decide (x9_2 < (x261002_2.length : Int)) = true := decide_eq_true c23
 clear c23
 by_cases c24 : 0 ≤ x9_2
 rotate_left
 ·rw [if_neg c24] at H
  exact absurd H (by simp)
 rw [if_pos c24] at H
 have c24b0 : decide (0 ≤ x9_2) = true := decide_eq_true c24
 clear c24
 obtain ⟨y263, hy263⟩ : ∃ y_ : List (S91), y_ = (x261002_2.set (x9_2 : Int).toNat (⟨(⟨IntKind.i8.wrap (((rd_T91 x261002_2 x9_2).f0.f0) + (IntKind.i8.wrap (a1))), (rd_T91 x261002_2 x9_2).f0.f1⟩ : S74), (rd_T91 x261002_2 x9_2).f1, (rd_T91 x261002_2 x9_2).f2, (rd_T91 x261002_2 x9_2).f3⟩ : S91)) := ⟨_, rfl⟩
 replace H : (spec_MoveBoard.l0 k2 a1 a2 (wrap64 (x9_2 + 1)) t255 t256 (y263.set (x9_2 : Int).toNat (⟨(⟨(rd_T91 y263 x9_2).f0.f0, IntKind.i8.wrap (((rd_T91 y263 x9_2).f0.f1) + (IntKind.i8.wrap (a2)))⟩ : S74), (rd_T91 y263 x9_2).f1, (rd_T91 y263 x9_2).f2, (rd_T91 y263 x9_2).f3⟩ : S91))) = some (r1, r2, r3, r4) := by first | (rw [hy263]; with_reducible exact H) | (have H2_ := (Option.bind_some _ _).symm.trans H; rw [hy263]; with_reducible exact H2_) | (have H2_ := (Option.bind_some _ _).symm.trans H; with_reducible exact H2_) | with_reducible exact H | (rw [hy263]; exact H) | exact H
 have Ny263 := Aside0.mk hy263
 clear hy263
 obtain ⟨y265, hy265⟩ : ∃ y_ : List (S91), y_ = (y263.set (x9_2 : Int).toNat (⟨(⟨(rd_T91 y263 x9_2).f0.f0, IntKind.i8.wrap (((rd_T91 y263 x9_2).f0.f1) + (IntKind.i8.wrap (a2)))⟩ : S74), (rd_T91 y263 x9_2).f1, (rd_T91 y263 x9_2).f2, (rd_T91 y263 x9_2).f3⟩ : S91)) := ⟨_, rfl⟩
 replace H : (spec_MoveBoard.l0 k2 a1 a2 (wrap64 (x9_2 + 1)) t255 t256 y265) = some (r1, r2, r3, r4) := by first | (rw [hy265]; with_reducible exact H) | (have H2_ := (Option.bind_some _ _).symm.trans H; rw [hy265]; with_reducible exact H2_) | (have H2_ := (Option.bind_some _ _).symm.trans H; with_reducible exact H2_) | with_reducible exact H | (rw [hy265]; exact H) | exact H
 have Ny265 := Aside0.mk hy265
 clear hy265
 have H' := Aside0.mk H
 clear H
 have hnb27 := NB260_250.out
 have hnc27 := NB250_260.out
 have hnb28 := NB260_251.out
 have hnc28 := NB251_260.out
 obtain ⟨z29_0, z29_1, z29_2, y29_0, y29_1, y29_2⟩ := zB3 BK260
 obtain ⟨Ao30, co30, eo30⟩ := Kd.R_slice HO_261002.out
 subst eo30
 have p261 : 0 ≤ (x9_2 : Int) := of_decide_eq_true zA
 have q261 : x9_2 < (x261002_2.length : Int) := of_decide_eq_true zA
 obtain ⟨ad261, e261, hx261_0, hx261_1, hx261_2, hx261_3, hx261_4⟩ := at_T91 (Kd.R_reads' HO_261002.out).2.2 x9_2 p261 q261
 cases e261
 replace p261 := eq_true p261
 replace q261 := eq_true q261
 try go_wp2
 have n_ : _ ∧ _ ∧ _ ∧ _ ∧ _ := ⟨Aside0.mk (Kd.R_drew HO_261002.out), Aside0.mk (blk_drew BK250.out), Aside0.mk (blk_drew BK251.out), Aside0.mk (blk_drew BK260.out), Aside0.mk (below_drew1 HB.out)⟩
 clear HO_261002 BK250 BK251 BK260 HB
 obtain ⟨HO_261002, BK250, BK251, BK260, HB⟩ := n_
 have p262 : 0 ≤ (x9_2 : Int) := of_decide_eq_true zA
 have q262 : x9_2 < (x261002_2.length : Int) := of_decide_eq_true zA
 obtain ⟨ad262, e262, hx262_0, hx262_1, hx262_2, hx262_3, hx262_4⟩ := at_T91 (Kd.R_reads' HO_261002.out).2.2 x9_2 p262 q262
 obtain rfl : ad261 = ad262 := (by injection e262)
 replace p262 := eq_true p262
 replace q262 := eq_true q262
 have p25 : 0 ≤ (x9_2 : Int) := of_decide_eq_true zA
 have q25 : (x9_2 : Int) < ((x261002_2.length : Int) : Int) := of_decide_eq_true zA
 obtain ⟨go25, co25, eo25, gb25, gl25, cl25, HG25⟩ := Kd.R_form HO_261002.out (by omega)
 (first | cases eo25 | (injection eo25 with ea_ en_ ec_; (first | subst ea_ | (injection ea_ with ea_; subst ea_)); subst ec_; clear en_))
 have GB25 := Aside0.mk gb25
 have GG25 := Aside0.mk HG25
 clear gb25 gl25 HG25
 (first | simp only [add_plain] at hx261_0 | skip)
 (first | simp only [add_plain] at hx261_1 | skip)
 (first | simp only [add_plain] at hx261_2 | skip)
 (first | simp only [add_plain] at hx261_3 | skip)
 (first | simp only [add_plain] at hx261_4 | skip)
 (first | simp only [add_plain] at hx262_0 | skip)
 (first | simp only [add_plain] at hx262_1 | skip)
 (first | simp only [add_plain] at hx262_2 | skip)
 (first | simp only [add_plain] at hx262_3 | skip)
 (first | simp only [add_plain] at hx262_4 | skip)
 obtain ⟨ce25, hcl25, hM25, hcc25, hfr25⟩ := Kd.R_elem HO_261002.out z91 (x9_2 : Int) p25 q25
 obtain rfl := k91_openM hM25
 have hx25_0 : World.cell? _ ⟨go25, (x9_2 : Int).toNat * 5, none⟩ = some (.int .i8 ((rd_T91 x261002_2 x9_2).f0.f0)) := hcc25 0 _ rfl
 have hx25_1 : World.cell? _ ⟨go25, (x9_2 : Int).toNat * 5 + 1, none⟩ = some (.int .i8 ((rd_T91 x261002_2 x9_2).f0.f1)) := hcc25 1 _ rfl
 have hx25_2 : World.cell? _ ⟨go25, (x9_2 : Int).toNat * 5 + 2, none⟩ = some (.int .i8 ((rd_T91 x261002_2 x9_2).f1)) := hcc25 2 _ rfl
 have hx25_3 : World.cell? _ ⟨go25, (x9_2 : Int).toNat * 5 + 3, none⟩ = some (.int .i8 ((rd_T91 x261002_2 x9_2).f2)) := hcc25 3 _ rfl
 have hx25_4 : World.cell? _ ⟨go25, (x9_2 : Int).toNat * 5 + 4, none⟩ = some (.int .i8 ((rd_T91 x261002_2 x9_2).f3)) := hcc25 4 _ rfl
 have hf25_0 : World.frozen? _ ⟨go25, (x9_2 : Int).toNat * 5, none⟩ = false := hfr25 0
 have hf25_1 : World.frozen? _ ⟨go25, (x9_2 : Int).toNat * 5 + 1, none⟩ = false := hfr25 1
 have hf25_2 : World.frozen? _ ⟨go25, (x9_2 : Int).toNat * 5 + 2, none⟩ = false := hfr25 2
 have hf25_3 : World.frozen? _ ⟨go25, (x9_2 : Int).toNat * 5 + 3, none⟩ = false := hfr25 3
 have hf25_4 : World.frozen? _ ⟨go25, (x9_2 : Int).toNat * 5 + 4, none⟩ = false := hfr25 4
 clear hcl25 hcc25 hfr25 hM25
 replace p25 := eq_true p25
 replace q25 := eq_true q25
 obtain ⟨ce32, hcl32, hM32, hcc32, hfr32⟩ := Kd.R_elem HO_261002.out z91 (x9_2 : Int) (of_decide_eq_true zA) (zlt (x9_2 : Int) (x261002_2.length : Int) (Kd.R_reads' HO_261002.out).1)
 obtain rfl := k91_openM hM32
 have HP32 := (Kd.R_seg HO_261002.out (x9_2 : Int) (of_decide_eq_true zA) (zlt (x9_2 : Int) (x261002_2.length : Int) (Kd.R_reads' HO_261002.out).1) (seg := [.int .i8 (IntKind.i8.wrap (((rd_T91 x261002_2 x9_2).f0.f0) + (IntKind.i8.wrap (a1))))]) (j := 0) hcl32 hcc32 (show 1 ≤ 5 from by decide) (x' := (⟨(⟨IntKind.i8.wrap (((rd_T91 x261002_2 x9_2).f0.f0) + (IntKind.i8.wrap (a1))), (rd_T91 x261002_2 x9_2).f0.f1⟩ : S74), (rd_T91 x261002_2 x9_2).f1, (rd_T91 x261002_2 x9_2).f2, (rd_T91 x261002_2 x9_2).f3⟩ : S91)) (k91_mkM _ _ _ (⟨(⟨IntKind.i8.wrap (((rd_T91 x261002_2 x9_2).f0.f0) + (IntKind.i8.wrap (a1))), (rd_T91 x261002_2 x9_2).f0.f1⟩ : S74), (rd_T91 x261002_2 x9_2).f1, (rd_T91 x261002_2 x9_2).f2, (rd_T91 x261002_2 x9_2).f3⟩ : S91) ) (fun _ hk => hk)).1
 rw [← Ny263.out] at HP32
 have HQ32 := Aside0.mk HP32
 clear hcl32 hcc32 hfr32 hM32 HP32
 refine start_ (n := 10) (S := fun w' => w'.cell? ⟨go25, ((x9_2).toNat * 5), none⟩ = some (.int .i8 ((rd_T91 x261002_2 x9_2).f0.f0)) ∧ w'.cell? ⟨go25, ((x9_2).toNat * 5) + 1, none⟩ = some (.int .i8 ((rd_T91 x261002_2 x9_2).f0.f1)) ∧ w'.cell? ⟨go25, ((x9_2).toNat * 5) + 2, none⟩ = some (.int .i8 ((rd_T91 x261002_2 x9_2).f1)) ∧ w'.cell? ⟨go25, ((x9_2).toNat * 5) + 3, none⟩ = some (.int .i8 ((rd_T91 x261002_2 x9_2).f2)) ∧ w'.cell? ⟨go25, ((x9_2).toNat * 5) + 4, none⟩ = some (.int .i8 ((rd_T91 x261002_2 x9_2).f3))) (ds := [9]) (zq 10 0) (by kernel_rfl) rfl rfl ⟨hx262_0, hx262_1, hx262_2, hx262_3, hx262_4⟩ (fun hHeld => ?_); refine with_tabW spec_MoveBoard.tab10 spec_MoveBoard.bits10 (fun HT_ HW_ => ?_)
 generalize wr.drew = w31 at HO_261002 BK250 BK251 BK260 HB GG25 HQ32 hf25_0 hf25_1 hf25_2 hf25_3 hf25_4 hx25_0 hx25_1 hx25_2 hx25_3 hx25_4 hx261_0 hx261_1 hx261_2 hx261_3 hx261_4 hx262_0 hx262_1 hx262_2 hx262_3 hx262_4 hHeld ⊢
 refine zpu 0 (some 36) (zq 10 1) HT_ ?_
 refine zpu 1 (some 37) (zq 10 3) HT_ ?_
 refine zpu 2 (some 38) (zq 10 7) HT_ ?_
 refine zpu 4 (some 40) (zq 10 23) HT_ ?_
 refine zpu 5 (some 41) (zq 10 55) HT_ ?_
 refine zpu 7 (some 43) (zq 10 183) HT_ ?_
 refine ztk 3 (some 39) (zq 10 191) HT_ HW_ rfl hHeld (Or.inl ⟨by rfl, by (rintro w' ⟨s0, s1, s2, s3, s4⟩; go_simp; with_reducible rfl)⟩) ?_
 refine zpu 6 (some 42) (zq 10 255) HT_ ?_
 refine zpu 8 (some 44) (zq 10 511) HT_ ?_
 refine last_ (i := 9) (N := none) (zq 10 1023) rfl rfl (one_of HT_.out (by kernel_rfl)) (by decide) (fun K hK => ?_)
 refine skip_ (w1 := ?_) (by rfl) rfl ?_ ?_
 rotate_left
 ·go_simp
  rfl
 refine hK.out _ _ ?_
 clear hK K
 refine done_ (done_of HT_.out (by kernel_rfl)) ?_
 try go_wp2
 have n0_ : Aside0 (Kd.R k91 91 (w31.setCell ⟨go25, (x9_2 : Int).toNat * 5, none⟩ (.int .i8 (IntKind.i8.wrap (((rd_T91 x261002_2 x9_2).f0.f0) + (IntKind.i8.wrap (a1)))))) w.heap.size (fun _ => True) (.slice (some ⟨go25, 0, none⟩) x261002_2.length co30) y263) := ⟨HQ32.out⟩
 have n1_ : Aside0 ((w31.setCell ⟨go25, (x9_2 : Int).toNat * 5, none⟩ (.int .i8 (IntKind.i8.wrap (((rd_T91 x261002_2 x9_2).f0.f0) + (IntKind.i8.wrap (a1)))))).heap[gb250]? = some (.cells #[.int .i8 a0_0, .int .i8 a0_1, .slice A0_2 l0_2.length c0_2] 37 (0, 0))) := ⟨(zf BK250 ⟨by have h_ := Kd.R_ne HO_261002.out BK250.out (by decide); intro e_; exact h_ (by rw [e_]; rfl)⟩).out⟩
 have n2_ : Aside0 ((w31.setCell ⟨go25, (x9_2 : Int).toNat * 5, none⟩ (.int .i8 (IntKind.i8.wrap (((rd_T91 x261002_2 x9_2).f0.f0) + (IntKind.i8.wrap (a1)))))).heap[gb251]? = some (.cells #[.int .i8 0, .int .i8 0, .slice none 0 0] 37 (0, 0))) := ⟨(zf BK251 ⟨by have h_ := Kd.R_ne HO_261002.out BK251.out (by decide); intro e_; exact h_ (by rw [e_]; rfl)⟩).out⟩
 have n3_ : Aside0 ((w31.setCell ⟨go25, (x9_2 : Int).toNat * 5, none⟩ (.int .i8 (IntKind.i8.wrap (((rd_T91 x261002_2 x9_2).f0.f0) + (IntKind.i8.wrap (a1)))))).heap[gb260]? = some (.cells #[.int .i8 t255, .int .i8 t256, .slice (some ⟨go25, 0, none⟩) x261002_2.length co30] 37 (0, 0))) := ⟨(zf BK260 ⟨by have h_ := Kd.R_ne HO_261002.out BK260.out (by decide); intro e_; exact h_ (by rw [e_]; rfl)⟩).out⟩
 have n4_ : Aside0 (Below w.heap.size w (w31.setCell ⟨go25, (x9_2 : Int).toNat * 5, none⟩ (.int .i8 (IntKind.i8.wrap (((rd_T91 x261002_2 x9_2).f0.f0) + (IntKind.i8.wrap (a1))))))) := zba
 (try clear HO_261002)
 (try clear BK250)
 (try clear BK251)
 (try clear BK260)
 (try clear HB)
 generalize (w31.setCell ⟨go25, (x9_2 : Int).toNat * 5, none⟩ (.int .i8 (IntKind.i8.wrap (((rd_T91 x261002_2 x9_2).f0.f0) + (IntKind.i8.wrap (a1)))))) = w33 at n0_ n1_ n2_ n3_ n4_ ⊢
 have HO_261002 := n0_
 have BK250 := n1_
 have BK251 := n2_
 have BK260 := n3_
 have HB := n4_
 clear n0_ n1_ n2_ n3_ n4_
 have n_ : _ ∧ _ ∧ _ ∧ _ ∧ _ := ⟨Aside0.mk (Kd.R_drew HO_261002.out), Aside0.mk (blk_drew BK250.out), Aside0.mk (blk_drew BK251.out), Aside0.mk (blk_drew BK260.out), Aside0.mk (below_drew1 HB.out)⟩
 clear HO_261002 BK250 BK251 BK260 HB
 obtain ⟨HO_261002, BK250, BK251, BK260, HB⟩ := n_
 have p264 : 0 ≤ (x9_2 : Int) := of_decide_eq_true zA
 have q264 : x9_2 < (y263.length : Int) := (by have h_ : (x9_2 : Int) < ((x261002_2.length : Int) : Int) := of_decide_eq_true zA; first | (have e_ := (Kd.R_reads' HO_261002.out).1; omega) | simpa only [Ny263.out, List.length_set] using h_)
 have ql264 : ((x9_2 : Int) < ((x261002_2.length : Int) : Int)) = True := eq_true (of_decide_eq_true zA)
 obtain ⟨ad264, e264, hx264_0, hx264_1, hx264_2, hx264_3, hx264_4⟩ := at_T91 (Kd.R_reads' HO_261002.out).2.2 x9_2 p264 q264
 obtain rfl : (⟨go25, 0, none⟩ : Addr) = ad264 := (by injection e264)
 (first | simp only [add_plain] at hx264_0 | simp only [add_at] at hx264_0 | simp only [Addr.add, Nat.zero_add] at hx264_0 | skip)
 (first | simp only [add_plain] at hx264_1 | simp only [add_at] at hx264_1 | simp only [Addr.add, Nat.zero_add] at hx264_1 | skip)
 (first | simp only [add_plain] at hx264_2 | simp only [add_at] at hx264_2 | simp only [Addr.add, Nat.zero_add] at hx264_2 | skip)
 (first | simp only [add_plain] at hx264_3 | simp only [add_at] at hx264_3 | simp only [Addr.add, Nat.zero_add] at hx264_3 | skip)
 (first | simp only [add_plain] at hx264_4 | simp only [add_at] at hx264_4 | simp only [Addr.add, Nat.zero_add] at hx264_4 | skip)
 replace p264 := eq_true p264
 replace q264 := eq_true q264
 have p26 : 0 ≤ (x9_2 : Int) := of_decide_eq_true zA
 have q26 : (x9_2 : Int) < ((x261002_2.length : Int) : Int) := of_decide_eq_true zA
 obtain ⟨ce26, hcl26, hM26, hcc26, hfr26⟩ := Kd.R_elem HO_261002.out z91 (x9_2 : Int) p26 q26
 obtain rfl := k91_openM hM26
 have hx26_0 : World.cell? _ ⟨go25, (x9_2 : Int).toNat * 5, none⟩ = some (.int .i8 ((rd_T91 y263 x9_2).f0.f0)) := hcc26 0 _ rfl
 have hx26_1 : World.cell? _ ⟨go25, (x9_2 : Int).toNat * 5 + 1, none⟩ = some (.int .i8 ((rd_T91 y263 x9_2).f0.f1)) := hcc26 1 _ rfl
 have hx26_2 : World.cell? _ ⟨go25, (x9_2 : Int).toNat * 5 + 2, none⟩ = some (.int .i8 ((rd_T91 y263 x9_2).f1)) := hcc26 2 _ rfl
 have hx26_3 : World.cell? _ ⟨go25, (x9_2 : Int).toNat * 5 + 3, none⟩ = some (.int .i8 ((rd_T91 y263 x9_2).f2)) := hcc26 3 _ rfl
 have hx26_4 : World.cell? _ ⟨go25, (x9_2 : Int).toNat * 5 + 4, none⟩ = some (.int .i8 ((rd_T91 y263 x9_2).f3)) := hcc26 4 _ rfl
 have hf26_0 : World.frozen? _ ⟨go25, (x9_2 : Int).toNat * 5, none⟩ = false := hfr26 0
 have hf26_1 : World.frozen? _ ⟨go25, (x9_2 : Int).toNat * 5 + 1, none⟩ = false := hfr26 1
 have hf26_2 : World.frozen? _ ⟨go25, (x9_2 : Int).toNat * 5 + 2, none⟩ = false := hfr26 2
 have hf26_3 : World.frozen? _ ⟨go25, (x9_2 : Int).toNat * 5 + 3, none⟩ = false := hfr26 3
 have hf26_4 : World.frozen? _ ⟨go25, (x9_2 : Int).toNat * 5 + 4, none⟩ = false := hfr26 4
 clear hcl26 hcc26 hfr26 hM26
 replace p26 := eq_true p26
 replace q26 := eq_true q26
 obtain ⟨ce35, hcl35, hM35, hcc35, hfr35⟩ := Kd.R_elem HO_261002.out z91 (x9_2 : Int) (of_decide_eq_true zA) (zlt (x9_2 : Int) (x261002_2.length : Int) (Kd.R_reads' HO_261002.out).1)
 obtain rfl := k91_openM hM35
 have HP35 := (Kd.R_seg HO_261002.out (x9_2 : Int) (of_decide_eq_true zA) (zlt (x9_2 : Int) (x261002_2.length : Int) (Kd.R_reads' HO_261002.out).1) (seg := [.int .i8 (IntKind.i8.wrap (((rd_T91 y263 x9_2).f0.f1) + (IntKind.i8.wrap (a2))))]) (j := 1) hcl35 hcc35 (show 2 ≤ 5 from by decide) (x' := (⟨(⟨(rd_T91 y263 x9_2).f0.f0, IntKind.i8.wrap (((rd_T91 y263 x9_2).f0.f1) + (IntKind.i8.wrap (a2)))⟩ : S74), (rd_T91 y263 x9_2).f1, (rd_T91 y263 x9_2).f2, (rd_T91 y263 x9_2).f3⟩ : S91)) (k91_mkM _ _ _ (⟨(⟨(rd_T91 y263 x9_2).f0.f0, IntKind.i8.wrap (((rd_T91 y263 x9_2).f0.f1) + (IntKind.i8.wrap (a2)))⟩ : S74), (rd_T91 y263 x9_2).f1, (rd_T91 y263 x9_2).f2, (rd_T91 y263 x9_2).f3⟩ : S91) ) (fun _ hk => hk)).1
 rw [← Ny265.out] at HP35
 have HQ35 := Aside0.mk HP35
 clear hcl35 hcc35 hfr35 hM35 HP35
 refine start_ (n := 10) (S := fun w' => w'.cell? ⟨go25, (x9_2).toNat * 5, none⟩ = some (.int .i8 ((rd_T91 y263 x9_2).f0.f0)) ∧ w'.cell? ⟨go25, (x9_2).toNat * 5 + 1, none⟩ = some (.int .i8 ((rd_T91 y263 x9_2).f0.f1)) ∧ w'.cell? ⟨go25, (x9_2).toNat * 5 + 2, none⟩ = some (.int .i8 ((rd_T91 y263 x9_2).f1)) ∧ w'.cell? ⟨go25, (x9_2).toNat * 5 + 3, none⟩ = some (.int .i8 ((rd_T91 y263 x9_2).f2)) ∧ w'.cell? ⟨go25, (x9_2).toNat * 5 + 4, none⟩ = some (.int .i8 ((rd_T91 y263 x9_2).f3))) (ds := [9]) (zq 10 0) (by kernel_rfl) rfl rfl ⟨hx264_0, hx264_1, hx264_2, hx264_3, hx264_4⟩ (fun hHeld => ?_); refine with_tabW spec_MoveBoard.tab11 spec_MoveBoard.bits11 (fun HT_ HW_ => ?_)
 generalize w33.drew = w34 at HO_261002 BK250 BK251 BK260 HB HQ32 HQ35 hf26_0 hf26_1 hf26_2 hf26_3 hf26_4 hx264_0 hx264_1 hx264_2 hx264_3 hx264_4 hx26_0 hx26_1 hx26_2 hx26_3 hx26_4 hHeld ⊢
 refine zpu 0 (some 45) (zq 10 1) HT_ ?_
 refine zpu 1 (some 46) (zq 10 3) HT_ ?_
 refine zpu 2 (some 47) (zq 10 7) HT_ ?_
 refine zpu 4 (some 49) (zq 10 23) HT_ ?_
 refine zpu 5 (some 50) (zq 10 55) HT_ ?_
 refine zpu 7 (some 52) (zq 10 183) HT_ ?_
 refine ztk 3 (some 48) (zq 10 191) HT_ HW_ rfl hHeld (Or.inl ⟨by rfl, by (rintro w' ⟨s0, s1, s2, s3, s4⟩; go_simp; with_reducible rfl)⟩) ?_
 refine zpu 6 (some 51) (zq 10 255) HT_ ?_
 refine zpu 8 (some 53) (zq 10 511) HT_ ?_
 refine last_ (i := 9) (N := none) (zq 10 1023) rfl rfl (one_of HT_.out (by kernel_rfl)) (by decide) (fun K hK => ?_)
 refine skip_ (w1 := ?_) (by rfl) rfl ?_ ?_
 rotate_left
 ·go_simp
  rfl
 refine hK.out _ _ ?_
 clear hK K
 refine done_ (done_of HT_.out (by kernel_rfl)) ?_
 try go_wp2
 go_roundg k2
 case measure => have := HJ5.out; have := HK2.out; omega
 case rel => exact ⟨(wrap64 (x9_2 + 1)), (y265), (.slice (some ⟨go25, 0, none⟩) x261002_2.length co30), zi, H', ⟨by have := HJ5.out; have := HK2.out; omega⟩, ⟨HQ35.out⟩, ⟨(zf BK250 ⟨by have h_ := Kd.R_ne HO_261002.out BK250.out (by decide); intro e_; exact h_ (by rw [e_]; rfl)⟩).out⟩, ⟨(zf BK251 ⟨by have h_ := Kd.R_ne HO_261002.out BK251.out (by decide); intro e_; exact h_ (by rw [e_]; rfl)⟩).out⟩, ⟨(zf BK260 ⟨by have h_ := Kd.R_ne HO_261002.out BK260.out (by decide); intro e_; exact h_ (by rw [e_]; rfl)⟩).out⟩, zba⟩
def spec_l01Side.f (a0 : Int) : Option (Bool) := (spec_l00In.f a0 0 3).bind fun t267 => (some t267)
theorem spec_l01Side.calls (a0 : Int) (r : Bool) (w : World) (h : spec_l01Side.f a0 = some r) :
    Calls Try.prog 161 #[.int .i64 a0] w fun e w' => e = .returned (.bool r) ∧ Drawn0 w w' := by
 have H : ((spec_l00In.f a0 0 3).bind fun t267 => (some t267)) = some r := h
 clear h
 replace H := zob H
 obtain ⟨t267, A20, H⟩ := H
 replace H : (some t267) = some r := H
 have A2 := Aside0.mk A20
 clear A20
 obtain rfl := Option.some.inj H
 go_enter Try.func161, Try.ntmps161
 go_wp2_with (first | ((with_reducible refine gate_callee (f := 96) rfl ?_); refine goesL_ (some 4) rfl rfl Try.func96 (by kernel_rfl) rfl #[.int .i64 a0, .int .i64 0, .int .i64 3] rfl zm ?_; (with_reducible refine (spec_l00In.calls a0 0 3 t267 _ A2.out).mono ?_); rintro e w' ⟨rfl, ⟨nd, rfl⟩⟩; refine ⟨_, rfl, ?_⟩))
 go_ret
 exact ⟨zi, zdr⟩
end Go.Proofs.Ytffnfpnajkgnaaa.PFnExactMoveMachine
