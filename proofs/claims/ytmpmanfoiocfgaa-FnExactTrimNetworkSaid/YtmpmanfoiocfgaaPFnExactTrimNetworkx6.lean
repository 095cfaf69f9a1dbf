-- WRITTEN by xprint.py, a program of this session's. Not trusted: Lean checks it.
-- packed by pack.py
import Derived.Test.YtmpmanfoiocfgaaPFnExactTrimNetworkx0
import Derived.Test.YtmpmanfoiocfgaaPFnExactTrimNetworkx4
import Derived.Test.YtmpmanfoiocfgaaPFnExactTrimNetworkx5
import Derived.Test.YtmpmanfoiocfgaaTFnExactTrimNetworka
namespace Go.Proofs.Ytmpmanfoiocfgaa.PFnExactTrimNetwork
open Go.RowKit Go.Proofs.YtmpmanfoiocfgaaW.PrintWords Go.Proofs.YtmpmanfoiocfgaaW.PrintLast Go.Proofs.YtmpmanfoiocfgaaW.PrintMore Go.Proofs.YtmpmanfoiocfgaaX
attribute [local go_sem] max2_int min2_int max_two min_two max_three min_three max_four min_four   -- for this text's walks alone
set_option maxHeartbeats 8000000
set_option maxRecDepth 100000
set_option linter.unusedVariables false
set_option linter.unusedSimpArgs false

def spec_TrimNetwork.f (k : Nat) (a0_0 : Int) (l0_1 : List (S81)) (l0_2 : List Int) : Option (Int × (List (S81)) × List Int × Int) := (spec_l04Ok.f k [(⟨a0_0, l0_1, l0_2⟩ : S31)]).bind fun t216 => (if t216 = true then ((spec_l04Trim.f k [(⟨a0_0, l0_1, l0_2⟩ : S31)]).bind fun bt217 => (some (bt217.1, bt217.2.1, bt217.2.2, 0))) else (some (0, ([] : List (S81)), ([] : List Int), 1)))
theorem spec_TrimNetwork.mono : ∀ a0 a1 a2 k, LeO (spec_TrimNetwork.f k a0 a1 a2) (spec_TrimNetwork.f (k + 1) a0 a1 a2) := by
 intro a0 a1 a2 k
 unfold spec_TrimNetwork.f
 repeat' first | (with_reducible first | apply spec_l04Ok.mono | apply spec_l04Trim.mono | exact LeO.refl _ | exact LeO.none _ | refine LeO.ite ?_ ?_ | refine LeO.bind ?_ (fun _ => ?_)) | apply spec_l04Ok.mono | apply spec_l04Trim.mono | exact LeO.none _ | refine LeO.ite ?_ ?_ | refine LeO.bind ?_ (fun _ => ?_)
theorem spec_TrimNetwork.calls (k : Nat) (a0_0 : Int) (A0_1 : Option Addr) (c0_1 : Nat) (l0_1 : List (S81)) (A0_2 : Option Addr) (c0_2 : Nat) (l0_2 : List Int) (r1 : Int) (r2 : List (S81)) (r3 : List Int) (r4 : Int) (w : World) (hr0_1 : Kd.C k81 w A0_1 l0_1.length l0_1) (hc0_1 : l0_1.length ≤ c0_1) (hr0_2 : Kd.C (Kd.int .i16) w A0_2 l0_2.length l0_2) (hc0_2 : l0_2.length ≤ c0_2) (h : spec_TrimNetwork.f k a0_0 l0_1 l0_2 = some (r1, r2, r3, r4)) :
    Calls Try.prog 53 #[.agg #[.int .i8 a0_0, .slice A0_1 l0_1.length c0_1, .slice A0_2 l0_2.length c0_2]] w fun e w' => ∃ v1_ v2_ : Value, e = .returned (.tuple #[.agg #[.int .i8 r1, v1_, v2_], .int .i64 r4]) ∧ Kd.R k81 81 w' w.heap.size (fun _ => True) v1_ r2 ∧ Kd.R (Kd.int .i16) 79 w' w.heap.size (fun _ => True) v2_ r3 ∧ Below w.heap.size w w' := by
 have hu31 := Try.underlying31
 have HR0_1 := Aside0.mk hr0_1
 have HC0_1 := Aside0.mk hc0_1
 clear hr0_1 hc0_1
 have HR0_2 := Aside0.mk hr0_2
 have HC0_2 := Aside0.mk hc0_2
 clear hr0_2 hc0_2
 have HB := Aside0.mk (Below.refl w.heap.size w)
 have H : ((spec_l04Ok.f k [(⟨a0_0, l0_1, l0_2⟩ : S31)]).bind fun t216 => (if t216 = true then ((spec_l04Trim.f k [(⟨a0_0, l0_1, l0_2⟩ : S31)]).bind fun bt217 => (some (bt217.1, bt217.2.1, bt217.2.2, 0))) else (some (0, ([] : List (S81)), ([] : List Int), 1)))) = some (r1, r2, r3, r4) := h
 clear h
 replace H := zob H
 obtain ⟨t216, A20, H⟩ := H
 replace H : (if t216 = true then ((spec_l04Trim.f k [(⟨a0_0, l0_1, l0_2⟩ : S31)]).bind fun bt217 => (some (bt217.1, bt217.2.1, bt217.2.2, 0))) else (some (0, ([] : List (S81)), ([] : List Int), 1))) = some (r1, r2, r3, r4) := H
 have A2 := Aside0.mk A20
 clear A20
 by_cases c3 : t216 = true
 rotate_left
 ·replace c3 := Bool.eq_false_iff.mpr c3
  subst c3
  have H1 : (some (0, ([] : List (S81)), ([] : List Int), 1)) = some (r1, r2, r3, r4) := by rw [if_neg (show ¬ (false = true) by decide)] at H; exact H
  clear H
  have H := H1
  clear H1
  simp only [Option.some.injEq, Prod.mk.injEq] at H
  obtain ⟨rfl, rfl, rfl, rfl⟩ := H
  go_enter Try.func53, Try.ntmps53
  go_wp2_with (first | ((with_reducible refine gate_dst (N := 1) rfl ?_); refine zbx 1 #[.int .i8 a0_0, .slice A0_1 l0_1.length c0_1, .slice A0_2 l0_2.length c0_2] 31 ?_; intro gb214 hg w13 hbox hb; have n_ : _ ∧ _ ∧ _ ∧ _ := ⟨zb HB hb, Aside0.mk (hbox), zg HB hg, zg HB hg⟩; clear HB; obtain ⟨HB, BK214, GW214, GE214⟩ := n_; clear hb hbox hg) | ((with_reducible refine gate_dst (N := 2) rfl ?_); refine zbx 2 #[.int .i8 0, .slice none 0 0, .slice none 0 0] 31 ?_; intro gb215 hg w14 hbox hb; have n_ : _ ∧ _ ∧ _ ∧ _ ∧ _ ∧ _ ∧ _ := ⟨zk BK214 hb, zbs hb, Aside0.mk (hbox), zg HB hg, zg HB hg, zn1 BK214 hg, zn2 BK214 hg⟩; clear BK214 HB; obtain ⟨BK214, HB, BK215, GW215, GE215, NB214_215, NB215_214⟩ := n_; clear hb hbox hg) | ((with_reducible refine gate_callee (f := 81) rfl ?_); refine goesL_ (some 4) rfl rfl Try.func81 (by kernel_rfl) rfl #[.pointer (some ⟨gb214, 0, none⟩)] rfl zm ?_; (with_reducible refine (spec_l04Ok.calls k _ [(⟨a0_0, l0_1, l0_2⟩ : S31)] false _ ?side1 A2.out).mono ?_); (case side1 => refine ro_of_blk (T := 31) (cs := #[.int .i8 a0_0, .slice A0_1 l0_1.length c0_1, .slice A0_2 l0_2.length c0_2]) (zh BK214).out ?_; exact k31_mk _ (⟨a0_0, l0_1, l0_2⟩ : S31) (by exact HC0_1.out) (by exact zcc HB HR0_1.out) (by exact HC0_2.out) (by exact zcc HB HR0_2.out)); rintro e w15 ⟨rfl, hb⟩; refine ⟨_, rfl, ?_⟩; have n_ : _ ∧ _ ∧ _ := ⟨zk BK214 hb, zk BK215 hb, zbs hb⟩; clear BK214 BK215 HB; obtain ⟨BK214, BK215, HB⟩ := n_; (try clear hb); (try clear hb2); (try clear hk); (try clear hi); have hnb16 := NB215_214.out; have hnc16 := NB214_215.out; obtain ⟨z17_0, z17_1, z17_2, y17_0, y17_1, y17_2⟩ := zB3 BK215))
  refine bodyPost_ret (results_ct rfl _ _ gb215 31 #[.int .i8 0, .slice none 0 0, .slice none 0 0] (0, 0) _ rfl (zp BK215) Try.underlying31 rfl (by kernel_rfl)) rfl ?_
  exact ⟨_, _, zv, by first | exact Kd.R_nil _ _ _ _ _ | exact Kd.N_nil _ _ _ _ _ | exact Kd.V_nil _ _ _ _ _ | exact Kd.Q_nil _ _ _ _ _ | exact Kd.S_nil _ _ _ _ _, by first | exact Kd.R_nil _ _ _ _ _ | exact Kd.N_nil _ _ _ _ _ | exact Kd.V_nil _ _ _ _ _ | exact Kd.Q_nil _ _ _ _ _ | exact Kd.S_nil _ _ _ _ _, zbo⟩
 subst c3
 have H1 : ((spec_l04Trim.f k [(⟨a0_0, l0_1, l0_2⟩ : S31)]).bind fun bt217 => (some (bt217.1, bt217.2.1, bt217.2.2, 0))) = some (r1, r2, r3, r4) := by rw [if_pos rfl] at H; exact H
 clear H
 have H := H1
 clear H1
 replace H := zob H
 obtain ⟨⟨t217, t218, t221⟩, A40, H⟩ := H
 replace H : (some (t217, t218, t221, 0)) = some (r1, r2, r3, r4) := H
 have A4 := Aside0.mk A40
 clear A40
 simp only [Option.some.injEq, Prod.mk.injEq] at H
 obtain ⟨rfl, rfl, rfl, rfl⟩ := H
 go_enter Try.func53, Try.ntmps53
 go_wp2_with (first | ((with_reducible refine gate_dst (N := 1) rfl ?_); refine zbx 1 #[.int .i8 a0_0, .slice A0_1 l0_1.length c0_1, .slice A0_2 l0_2.length c0_2] 31 ?_; intro gb214 hg w5 hbox hb; have n_ : _ ∧ _ ∧ _ ∧ _ := ⟨zb HB hb, Aside0.mk (hbox), zg HB hg, zg HB hg⟩; clear HB; obtain ⟨HB, BK214, GW214, GE214⟩ := n_; clear hb hbox hg) | ((with_reducible refine gate_dst (N := 2) rfl ?_); refine zbx 2 #[.int .i8 0, .slice none 0 0, .slice none 0 0] 31 ?_; intro gb215 hg w6 hbox hb; have n_ : _ ∧ _ ∧ _ ∧ _ ∧ _ ∧ _ ∧ _ := ⟨zk BK214 hb, zbs hb, Aside0.mk (hbox), zg HB hg, zg HB hg, zn1 BK214 hg, zn2 BK214 hg⟩; clear BK214 HB; obtain ⟨BK214, HB, BK215, GW215, GE215, NB214_215, NB215_214⟩ := n_; clear hb hbox hg) | ((with_reducible refine gate_callee (f := 81) rfl ?_); refine goesL_ (some 4) rfl rfl Try.func81 (by kernel_rfl) rfl #[.pointer (some ⟨gb214, 0, none⟩)] rfl zm ?_; (with_reducible refine (spec_l04Ok.calls k _ [(⟨a0_0, l0_1, l0_2⟩ : S31)] true _ ?side1 A2.out).mono ?_); (case side1 => refine ro_of_blk (T := 31) (cs := #[.int .i8 a0_0, .slice A0_1 l0_1.length c0_1, .slice A0_2 l0_2.length c0_2]) (zh BK214).out ?_; exact k31_mk _ (⟨a0_0, l0_1, l0_2⟩ : S31) (by exact HC0_1.out) (by exact zcc HB HR0_1.out) (by exact HC0_2.out) (by exact zcc HB HR0_2.out)); rintro e w7 ⟨rfl, hb⟩; refine ⟨_, rfl, ?_⟩; have n_ : _ ∧ _ ∧ _ := ⟨zk BK214 hb, zk BK215 hb, zbs hb⟩; clear BK214 BK215 HB; obtain ⟨BK214, BK215, HB⟩ := n_; (try clear hb); (try clear hb2); (try clear hk); (try clear hi)) | ((with_reducible refine gate_callee (f := 100) rfl ?_); refine goesL_ (some 7) rfl rfl Try.func100 (by kernel_rfl) rfl #[.pointer (some ⟨gb214, 0, none⟩)] rfl zm ?_; (with_reducible refine (spec_l04Trim.calls k _ [(⟨a0_0, l0_1, l0_2⟩ : S31)] t217 t218 t221 _ ?side1 A4.out).mono ?_); (case side1 => refine ro_of_blk (T := 31) (cs := #[.int .i8 a0_0, .slice A0_1 l0_1.length c0_1, .slice A0_2 l0_2.length c0_2]) (zh BK214).out ?_; exact k31_mk _ (⟨a0_0, l0_1, l0_2⟩ : S31) (by exact HC0_1.out) (by exact zcc HB HR0_1.out) (by exact HC0_2.out) (by exact zcc HB HR0_2.out)); rintro e w8 ⟨v219, v222, rfl, ho0, ho1, hb⟩; refine ⟨_, rfl, ?_⟩; have n_ : _ ∧ _ ∧ _ ∧ _ ∧ _ := ⟨Aside0.mk (Kd.R_lower ho0 (zz HB)), Aside0.mk (Kd.R_lower ho1 (zz HB)), zk BK214 hb, zk BK215 hb, zbs hb⟩; clear BK214 BK215 HB; obtain ⟨HO220, HO223, BK214, BK215, HB⟩ := n_; (try clear hb); (try clear hb2); (try clear hk); (try clear hi); (try clear ho0); (try clear ho1); have hnb9 := NB215_214.out; have hnc9 := NB214_215.out; obtain ⟨z10_0, z10_1, z10_2, y10_0, y10_1, y10_2⟩ := zB3 BK215; obtain ⟨Ao11, co11, eo11⟩ := Kd.R_slice HO220.out; subst eo11; obtain ⟨Ao12, co12, eo12⟩ := Kd.R_slice HO223.out; subst eo12))
 refine bodyPost_ret (results_ct rfl _ _ gb215 31 #[.int .i8 t217, .slice Ao11 t218.length co11, .slice Ao12 t221.length co12] (0, 0) _ rfl (zp BK215) Try.underlying31 rfl (by kernel_rfl)) rfl ?_
 exact ⟨_, _, zv, Kd.R_mono (zs HO220 BK215).out (fun _ hk => trivial), Kd.R_mono (zs HO223 BK215).out (fun _ hk => trivial), zbo⟩
def impl_in.f (a0 : Int) (a1 : Int) (a2 : Int) : Option (Bool) := if a0 ≥ a1 then (some (decide (a0 ≤ a2))) else (some false)
theorem impl_in.calls (a0 : Int) (a1 : Int) (a2 : Int) (r : Bool) (w : World) (h : impl_in.f a0 a1 a2 = some r) :
    Calls Try.prog 82 #[.int .i64 a0, .int .i64 a1, .int .i64 a2] w fun e w' => e = .returned (.bool r) ∧ Drawn0 w w' := by
 have H : (if a0 ≥ a1 then (some (decide (a0 ≤ a2))) else (some false)) = some r := h
 clear h
 by_cases c4 : a0 ≥ a1
 ·rw [if_pos c4] at H
  have c4b0 : decide (a1 ≤ a0) = true := decide_eq_true c4
  clear c4
  obtain rfl := Option.some.inj H
  go_enter Try.func82, Try.ntmps82
  go_wp2
  go_ret
  exact ⟨zi, zdr⟩
 rw [if_neg c4] at H
 have c4b0 : decide (a1 ≤ a0) = false := decide_eq_false c4
 clear c4
 obtain rfl := Option.some.inj H
 go_enter Try.func82, Try.ntmps82
 go_wp2
 go_ret
 exact ⟨zi, zdr⟩
def impl_Node_ok.j0 : Nat → Int → Int → Int → Bool → Option (Bool)
  | 0, _, _, _, _ => none
  | k + 1, x2, x7, x8, x35 => if x35 = true then ((impl_in.f x7 0 (wrap64 (x2 - 1))).bind fun t226 => (if t226 = true then ((impl_in.f x8 0 (wrap64 (x2 - 1))).bind fun t227 => (some t227)) else (some false))) else (some false)
def impl_Node_ok.f (k : Nat) (a0_0 : Int) (a0_1 : Int) (a0_2 : Int) (a1 : Int) (a2 : Int) : Option (Bool) := if a0_0 = 0 then ((impl_in.f (wrap64 (a0_1)) 0 (wrap64 (a1 - 1))).bind fun t225 => (if t225 = true then (some ((wrap64 (a0_2)) == 0)) else (some false))) else (if a0_0 = 1 then (if (wrap64 (a0_1)) = 0 then (some ((wrap64 (a0_2)) == 0)) else (some false)) else (if a0_0 = 2 then (impl_Node_ok.j0 k a2 (wrap64 (a0_1)) (wrap64 (a0_2)) (a0_0 == 2)) else (impl_Node_ok.j0 k a2 (wrap64 (a0_1)) (wrap64 (a0_2)) (a0_0 == 3))))
theorem impl_Node_ok.mono_l : ∀ k, (∀ y0 y1 y2 y3, LeO (impl_Node_ok.j0 k y0 y1 y2 y3) (impl_Node_ok.j0 (k + 1) y0 y1 y2 y3))
  | 0 => fun _ _ _ _ r h => by simp [impl_Node_ok.j0] at h
  | k + 1 => by
    have ih0 := impl_Node_ok.mono_l k
    · intro y0 y1 y2 y3
      unfold impl_Node_ok.j0
      repeat' first | (with_reducible first | apply ih0 | exact LeO.refl _ | exact LeO.none _ | refine LeO.ite ?_ ?_ | refine LeO.bind ?_ (fun _ => ?_)) | apply ih0 | exact LeO.none _ | refine LeO.ite ?_ ?_ | refine LeO.bind ?_ (fun _ => ?_)
theorem impl_Node_ok.mono : ∀ a0 a1 a2 a3 a4 k, LeO (impl_Node_ok.f k a0 a1 a2 a3 a4) (impl_Node_ok.f (k + 1) a0 a1 a2 a3 a4) := by
 intro a0 a1 a2 a3 a4 k
 have ih0 := impl_Node_ok.mono_l k
 unfold impl_Node_ok.f
 repeat' first | (with_reducible first | apply ih0 | exact LeO.refl _ | exact LeO.none _ | refine LeO.ite ?_ ?_ | refine LeO.bind ?_ (fun _ => ?_)) | apply ih0 | exact LeO.none _ | refine LeO.ite ?_ ?_ | refine LeO.bind ?_ (fun _ => ?_)
theorem impl_Node_ok.calls (k : Nat) (a0_0 : Int) (a0_1 : Int) (a0_2 : Int) (a1 : Int) (a2 : Int) (r : Bool) (w : World) (h : impl_Node_ok.f k a0_0 a0_1 a0_2 a1 a2 = some r) :
    Calls Try.prog 83 #[.agg #[.int .i8 a0_0, .int .i16 a0_1, .int .i16 a0_2], .int .i64 a1, .int .i64 a2] w fun e w' => e = .returned (.bool r) ∧ Below w.heap.size w w' := by
 have hu81 := Try.underlying81
 have HB := Aside0.mk (Below.refl w.heap.size w)
 have H : (if a0_0 = 0 then ((impl_in.f (wrap64 (a0_1)) 0 (wrap64 (a1 - 1))).bind fun t225 => (if t225 = true then (some ((wrap64 (a0_2)) == 0)) else (some false))) else (if a0_0 = 1 then (if (wrap64 (a0_1)) = 0 then (some ((wrap64 (a0_2)) == 0)) else (some false)) else (if a0_0 = 2 then (impl_Node_ok.j0 k a2 (wrap64 (a0_1)) (wrap64 (a0_2)) (a0_0 == 2)) else (impl_Node_ok.j0 k a2 (wrap64 (a0_1)) (wrap64 (a0_2)) (a0_0 == 3))))) = some r := h
 clear h
 by_cases c4 : a0_0 = 0
 ·rw [if_pos c4] at H
  have c4b0 : (a0_0 == 0) = true := beq_iff_eq.mpr c4
  have c4b1 : (a0_0 != 0) = false := bne_eq_false_iff_eq.mpr c4
  clear c4
  replace H := zob H
  obtain ⟨t225, A50, H⟩ := H
  replace H : (if t225 = true then (some ((wrap64 (a0_2)) == 0)) else (some false)) = some r := H
  have A5 := Aside0.mk A50
  clear A50
  by_cases c6 : t225 = true
  ·subst c6
   have H1 : (some ((wrap64 (a0_2)) == 0)) = some r := by rw [if_pos rfl] at H; exact H
   clear H
   have H := H1
   clear H1
   obtain rfl := Option.some.inj H
   go_enter Try.func83, Try.ntmps83
   go_wp2_with (first | ((with_reducible refine gate_dst (N := 3) rfl ?_); refine zbx 3 #[.int .i8 a0_0, .int .i16 a0_1, .int .i16 a0_2] 81 ?_; intro gb224 hg w7 hbox hb; have n_ : _ ∧ _ ∧ _ ∧ _ := ⟨zb HB hb, Aside0.mk (hbox), zg HB hg, zg HB hg⟩; clear HB; obtain ⟨HB, BK224, GW224, GE224⟩ := n_; clear hb hbox hg; obtain ⟨z8_0, z8_1, z8_2, y8_0, y8_1, y8_2⟩ := zB3 BK224) | (go_at_call 82; (with_reducible refine (impl_in.calls (wrap64 (a0_1)) 0 (wrap64 (a1 - 1)) true _ A5.out).mono ?_); rintro e w' ⟨rfl, ⟨nd, rfl⟩⟩; (try first | exact ⟨rfl, _, World.drewN_drewN _ _ _⟩ | exact ⟨rfl, _, Eq.trans (World.drewN_drewN _ _ _) (congrArg (World.drewN _) (Nat.add_assoc _ _ _))⟩)) | go_quiet (first | (go_at_call 82; (with_reducible refine (impl_in.calls (wrap64 (a0_1)) 0 (wrap64 (a1 - 1)) true _ A5.out).mono ?_); rintro e w' ⟨rfl, ⟨nd, rfl⟩⟩; (try first | exact ⟨rfl, _, World.drewN_drewN _ _ _⟩ | exact ⟨rfl, _, Eq.trans (World.drewN_drewN _ _ _) (congrArg (World.drewN _) (Nat.add_assoc _ _ _))⟩))))
   go_ret
   exact ⟨zv, zbo⟩
  replace c6 := Bool.eq_false_iff.mpr c6
  subst c6
  have H1 : (some false) = some r := by rw [if_neg (show ¬ (false = true) by decide)] at H; exact H
  clear H
  have H := H1
  clear H1
  obtain rfl := Option.some.inj H
  go_enter Try.func83, Try.ntmps83
  go_wp2_with (first | ((with_reducible refine gate_dst (N := 3) rfl ?_); refine zbx 3 #[.int .i8 a0_0, .int .i16 a0_1, .int .i16 a0_2] 81 ?_; intro gb224 hg w9 hbox hb; have n_ : _ ∧ _ ∧ _ ∧ _ := ⟨zb HB hb, Aside0.mk (hbox), zg HB hg, zg HB hg⟩; clear HB; obtain ⟨HB, BK224, GW224, GE224⟩ := n_; clear hb hbox hg; obtain ⟨z10_0, z10_1, z10_2, y10_0, y10_1, y10_2⟩ := zB3 BK224) | (go_at_call 82; (with_reducible refine (impl_in.calls (wrap64 (a0_1)) 0 (wrap64 (a1 - 1)) false _ A5.out).mono ?_); rintro e w' ⟨rfl, ⟨nd, rfl⟩⟩; (try first | exact ⟨rfl, _, World.drewN_drewN _ _ _⟩ | exact ⟨rfl, _, Eq.trans (World.drewN_drewN _ _ _) (congrArg (World.drewN _) (Nat.add_assoc _ _ _))⟩)) | go_quiet (first | (go_at_call 82; (with_reducible refine (impl_in.calls (wrap64 (a0_1)) 0 (wrap64 (a1 - 1)) false _ A5.out).mono ?_); rintro e w' ⟨rfl, ⟨nd, rfl⟩⟩; (try first | exact ⟨rfl, _, World.drewN_drewN _ _ _⟩ | exact ⟨rfl, _, Eq.trans (World.drewN_drewN _ _ _) (congrArg (World.drewN _) (Nat.add_assoc _ _ _))⟩))))
  go_ret
  exact ⟨zv, zbo⟩
 rw [if_neg c4] at H
 have c4b0 : (a0_0 == 0) = false := beq_eq_false_iff_ne.mpr c4
 have c4b1 : (a0_0 != 0) = true := bne_iff_ne.mpr c4
 by_cases c11 : a0_0 = 1
 ·rw [if_pos c11] at H
  have c11b0 : (a0_0 == 1) = true := beq_iff_eq.mpr c11
  have c11b1 : (a0_0 != 1) = false := bne_eq_false_iff_eq.mpr c11
  clear c11
  by_cases c12 : (wrap64 (a0_1)) = 0
  rotate_left
  ·rw [if_neg c12] at H
   have c12b0 : ((wrap64 (a0_1)) == 0) = false := beq_eq_false_iff_ne.mpr c12
   have c12b1 : ((wrap64 (a0_1)) != 0) = true := bne_iff_ne.mpr c12
   obtain rfl := Option.some.inj H
   go_enter Try.func83, Try.ntmps83
   go_wp2_with (first | ((with_reducible refine gate_dst (N := 3) rfl ?_); refine zbx 3 #[.int .i8 a0_0, .int .i16 a0_1, .int .i16 a0_2] 81 ?_; intro gb224 hg w15 hbox hb; have n_ : _ ∧ _ ∧ _ ∧ _ := ⟨zb HB hb, Aside0.mk (hbox), zg HB hg, zg HB hg⟩; clear HB; obtain ⟨HB, BK224, GW224, GE224⟩ := n_; clear hb hbox hg; obtain ⟨z16_0, z16_1, z16_2, y16_0, y16_1, y16_2⟩ := zB3 BK224) | go_quiet (fail))
   go_ret
   exact ⟨zv, zbo⟩
  rw [if_pos c12] at H
  have c12b0 : ((wrap64 (a0_1)) == 0) = true := beq_iff_eq.mpr c12
  have c12b1 : ((wrap64 (a0_1)) != 0) = false := bne_eq_false_iff_eq.mpr c12
  clear c12
  obtain rfl := Option.some.inj H
  go_enter Try.func83, Try.ntmps83
  go_wp2_with (first | ((with_reducible refine gate_dst (N := 3) rfl ?_); refine zbx 3 #[.int .i8 a0_0, .int .i16 a0_1, .int .i16 a0_2] 81 ?_; intro gb224 hg w13 hbox hb; have n_ : _ ∧ _ ∧ _ ∧ _ := ⟨zb HB hb, Aside0.mk (hbox), zg HB hg, zg HB hg⟩; clear HB; obtain ⟨HB, BK224, GW224, GE224⟩ := n_; clear hb hbox hg; obtain ⟨z14_0, z14_1, z14_2, y14_0, y14_1, y14_2⟩ := zB3 BK224) | go_quiet (fail))
  go_ret
  exact ⟨zv, zbo⟩
 rw [if_neg c11] at H
 have c11b0 : (a0_0 == 1) = false := beq_eq_false_iff_ne.mpr c11
 have c11b1 : (a0_0 != 1) = true := bne_iff_ne.mpr c11
 have HC17 := Aside0.mk H
 clear H
 go_enter Try.func83, Try.ntmps83
 go_upto_if 35 with (first | ((with_reducible refine gate_dst (N := 3) rfl ?_); refine zbx 3 #[.int .i8 a0_0, .int .i16 a0_1, .int .i16 a0_2] 81 ?_; intro gb224 hg w18 hbox hb; have n_ : _ ∧ _ ∧ _ ∧ _ := ⟨zb HB hb, Aside0.mk (hbox), zg HB hg, zg HB hg⟩; clear HB; obtain ⟨HB, BK224, GW224, GE224⟩ := n_; clear hb hbox hg; obtain ⟨z19_0, z19_1, z19_2, y19_0, y19_1, y19_2⟩ := zB3 BK224))
 repeat (go_quiet (first | ((with_reducible refine gate_dst (N := 3) rfl ?_); refine zbx 3 #[.int .i8 a0_0, .int .i16 a0_1, .int .i16 a0_2] 81 ?_; intro gb224 hg w18 hbox hb; have n0_ := zb HB hb; have n1_ := Aside0.mk (hbox); have n2_ := zg HB hg; have n3_ := zg HB hg; clear HB; have HB := n0_; have BK224 := n1_; have GW224 := n2_; have GE224 := n3_; clear n0_ n1_ n2_ n3_; clear hb hbox hg; have z19_0 : w18.cell? ⟨gb224, 0, none⟩ = some (.int .i8 a0_0) := (blk_cell BK224.out 0).trans rfl; have z19_1 : w18.cell? ⟨gb224, 1, none⟩ = some (.int .i16 a0_1) := (blk_cell BK224.out 1).trans rfl; have z19_2 : w18.cell? ⟨gb224, 2, none⟩ = some (.int .i16 a0_2) := (blk_cell BK224.out 2).trans rfl; have y19_0 := blk_frozen BK224.out 0; have y19_1 := blk_frozen BK224.out 1; have y19_2 := blk_frozen BK224.out 2)); go_upto_if 35 with (first | ((with_reducible refine gate_dst (N := 3) rfl ?_); refine zbx 3 #[.int .i8 a0_0, .int .i16 a0_1, .int .i16 a0_2] 81 ?_; intro gb224 hg w18 hbox hb; have n0_ := zb HB hb; have n1_ := Aside0.mk (hbox); have n2_ := zg HB hg; have n3_ := zg HB hg; clear HB; have HB := n0_; have BK224 := n1_; have GW224 := n2_; have GE224 := n3_; clear n0_ n1_ n2_ n3_; clear hb hbox hg; have z19_0 : w18.cell? ⟨gb224, 0, none⟩ = some (.int .i8 a0_0) := (blk_cell BK224.out 0).trans rfl; have z19_1 : w18.cell? ⟨gb224, 1, none⟩ = some (.int .i16 a0_1) := (blk_cell BK224.out 1).trans rfl; have z19_2 : w18.cell? ⟨gb224, 2, none⟩ = some (.int .i16 a0_2) := (blk_cell BK224.out 2).trans rfl; have y19_0 := blk_frozen BK224.out 0; have y19_1 := blk_frozen BK224.out 1; have y19_2 := blk_frozen BK224.out 2)))
 (try simp only [Act.put, List.setIfInBounds_toArray, List.set_cons_zero, List.set_cons_succ])
 go_cut [35] (fun v35 wc => ∃ (kq : Nat) (x35_16 : Bool), v35 = .bool x35_16 ∧ Aside0 (impl_Node_ok.j0 kq a2 (wrap64 (a0_1)) (wrap64 (a0_2)) x35_16 = some r) ∧ Aside0 (kq ≤ k) ∧ Aside0 (wc.heap[gb224]? = some (.cells #[.int .i8 a0_0, .int .i16 a0_1, .int .i16 a0_2] 81 (0, 0))) ∧ Aside0 (Below w.heap.size w wc))
 case first =>
  have H := HC17.out
  clear HC17
  by_cases c20 : a0_0 = 2
  rotate_left
  ·rw [if_neg c20] at H
   have c20b0 : (a0_0 == 2) = false := beq_eq_false_iff_ne.mpr c20
   have c20b1 : (a0_0 != 2) = true := bne_iff_ne.mpr c20
   (first | rw [c20b0] | (simp only [i64_w, i32_w]; rw [c20b0]) | (have h_ := c20b0; simp only [bne] at h_; rw [h_]) | skip)
   have H' := Aside0.mk H
   clear H
   go_wp2
   repeat (go_quiet (fail); try go_wp2)
   go_meet
   case rel => exact ⟨_, ((a0_0 == 3)), zi, H', ⟨by first | omega | exact Nat.le_refl _⟩, zh BK224, zba⟩
  rw [if_pos c20] at H
  have c20b0 : (a0_0 == 2) = true := beq_iff_eq.mpr c20
  have c20b1 : (a0_0 != 2) = false := bne_eq_false_iff_eq.mpr c20
  clear c20
  (first | rw [c20b0] | (simp only [i64_w, i32_w]; rw [c20b0]) | (have h_ := c20b0; simp only [bne] at h_; rw [h_]) | skip)
  have H' := Aside0.mk H
  clear H
  go_wp2
  repeat (go_quiet (fail); try go_wp2)
  go_meet
  case rel => exact ⟨_, ((a0_0 == 2)), zi, H', ⟨by first | omega | exact Nat.le_refl _⟩, zh BK224, zba⟩
 clear HC17
 try clear c1
 try clear c2
 try clear p2
 try clear c4
 try clear c4b0
 try clear c4b1
 try clear c6
 try clear p6
 try clear c8
 try clear c11
 try clear c11b0
 try clear c11b1
 try clear c12
 try clear c12b0
 try clear c12b1
 try clear c20
 try clear c20b0
 try clear c20b1
 try clear z10_0 z10_1 z10_2
 try clear z14_0 z14_1 z14_2
 try clear z16_0 z16_1 z16_2
 try clear z19_0 z19_1 z19_2
 try clear z8_0 z8_1 z8_2
 try clear y10_0
 try clear y10_1
 try clear y10_2
 try clear y14_0
 try clear y14_1
 try clear y14_2
 try clear y16_0
 try clear y16_1
 try clear y16_2
 try clear y19_0
 try clear y19_1
 try clear y19_2
 try clear y8_0
 try clear y8_1
 try clear y8_2
 obtain ⟨kq, x35_16, rfl, HA, HJ16, BK224, HB⟩ := hcut
 cases kq with
 | zero => exact absurd HA.out (by simp [impl_Node_ok.j0])
 | succ kj16 => ?_
 have H := HA.out
 clear HA
 simp only [impl_Node_ok.j0] at H
 by_cases c21 : x35_16 = true
 rotate_left
 ·replace c21 := Bool.eq_false_iff.mpr c21
  subst c21
  have H1 : (some false) = some r := by rw [if_neg (show ¬ (false = true) by decide)] at H; exact H
  clear H
  have H := H1
  clear H1
  obtain rfl := Option.some.inj H
  go_wp2
  repeat (go_quiet (fail); try go_wp2)
  go_ret
  exact ⟨zv, zbo⟩
 subst c21
 have H1 : ((impl_in.f (wrap64 (a0_1)) 0 (wrap64 (a2 - 1))).bind fun t226 => (if t226 = true then ((impl_in.f (wrap64 (a0_2)) 0 (wrap64 (a2 - 1))).bind fun t227 => (some t227)) else (some false))) = some r := by rw [if_pos rfl] at H; exact H
 clear H
 have H := H1
 clear H1
 replace H := zob H
 obtain ⟨t226, A220, H⟩ := H
 replace H : (if t226 = true then ((impl_in.f (wrap64 (a0_2)) 0 (wrap64 (a2 - 1))).bind fun t227 => (some t227)) else (some false)) = some r := H
 have A22 := Aside0.mk A220
 clear A220
 by_cases c23 : t226 = true
 rotate_left
 ·replace c23 := Bool.eq_false_iff.mpr c23
  subst c23
  have H1 : (some false) = some r := by rw [if_neg (show ¬ (false = true) by decide)] at H; exact H
  clear H
  have H := H1
  clear H1
  obtain rfl := Option.some.inj H
  go_wp2_with (first | (go_at_call 82; (with_reducible refine (impl_in.calls (wrap64 (a0_1)) 0 (wrap64 (a2 - 1)) false _ A22.out).mono ?_); rintro e w' ⟨rfl, ⟨nd, rfl⟩⟩; (try first | exact ⟨rfl, _, World.drewN_drewN _ _ _⟩ | exact ⟨rfl, _, Eq.trans (World.drewN_drewN _ _ _) (congrArg (World.drewN _) (Nat.add_assoc _ _ _))⟩)) | go_quiet (first | (go_at_call 82; (with_reducible refine (impl_in.calls (wrap64 (a0_1)) 0 (wrap64 (a2 - 1)) false _ A22.out).mono ?_); rintro e w' ⟨rfl, ⟨nd, rfl⟩⟩; (try first | exact ⟨rfl, _, World.drewN_drewN _ _ _⟩ | exact ⟨rfl, _, Eq.trans (World.drewN_drewN _ _ _) (congrArg (World.drewN _) (Nat.add_assoc _ _ _))⟩))))
  go_ret
  exact ⟨zv, zbo⟩
 subst c23
 have H1 : ((impl_in.f (wrap64 (a0_2)) 0 (wrap64 (a2 - 1))).bind fun t227 => (some t227)) = some r := by rw [if_pos rfl] at H; exact H
 clear H
 have H := H1
 clear H1
 replace H := zob H
 obtain ⟨t227, A240, H⟩ := H
 replace H : (some t227) = some r := H
 have A24 := Aside0.mk A240
 clear A240
 obtain rfl := Option.some.inj H
 go_wp2_with (first | (go_at_call 82; (with_reducible refine (impl_in.calls (wrap64 (a0_1)) 0 (wrap64 (a2 - 1)) true _ A22.out).mono ?_); rintro e w' ⟨rfl, ⟨nd, rfl⟩⟩; (try first | exact ⟨rfl, _, World.drewN_drewN _ _ _⟩ | exact ⟨rfl, _, Eq.trans (World.drewN_drewN _ _ _) (congrArg (World.drewN _) (Nat.add_assoc _ _ _))⟩)) | (go_at_call 82; (with_reducible refine (impl_in.calls (wrap64 (a0_2)) 0 (wrap64 (a2 - 1)) t227 _ A24.out).mono ?_); rintro e w' ⟨rfl, ⟨nd, rfl⟩⟩; (try first | exact ⟨rfl, _, World.drewN_drewN _ _ _⟩ | exact ⟨rfl, _, Eq.trans (World.drewN_drewN _ _ _) (congrArg (World.drewN _) (Nat.add_assoc _ _ _))⟩)) | go_quiet (first | (go_at_call 82; (with_reducible refine (impl_in.calls (wrap64 (a0_1)) 0 (wrap64 (a2 - 1)) true _ A22.out).mono ?_); rintro e w' ⟨rfl, ⟨nd, rfl⟩⟩; (try first | exact ⟨rfl, _, World.drewN_drewN _ _ _⟩ | exact ⟨rfl, _, Eq.trans (World.drewN_drewN _ _ _) (congrArg (World.drewN _) (Nat.add_assoc _ _ _))⟩)) | (go_at_call 82; (with_reducible refine (impl_in.calls (wrap64 (a0_2)) 0 (wrap64 (a2 - 1)) t227 _ A24.out).mono ?_); rintro e w' ⟨rfl, ⟨nd, rfl⟩⟩; (try first | exact ⟨rfl, _, World.drewN_drewN _ _ _⟩ | exact ⟨rfl, _, Eq.trans (World.drewN_drewN _ _ _) (congrArg (World.drewN _) (Nat.add_assoc _ _ _))⟩))))
 go_ret
 exact ⟨zv, zbo⟩
-- NOT PRINTED: function 126 (slices_IndexFunc_int16_int16)

-- NOT PRINTED: function 84 (slices_ContainsFunc_int16_int16)

def impl_ValidNetwork_1.f (a0 : Int) (l1 : List (S31)) : Option (Bool) := if 0 < (l1.length : Int) then ((impl_in.f (wrap64 (a0)) 0 (wrap64 ((((rd_T31 l1 0).f1).length : Int) - 1))).bind fun t229 => (some (!t229))) else (none)
theorem impl_ValidNetwork_1.calls (a0 : Int) (adp1 : Addr) (l1 : List (S31)) (r : Bool) (w : World) (hr1 : Kd.C k31 w (some adp1) l1.length l1) (h : impl_ValidNetwork_1.f a0 l1 = some r) :
    Calls Try.prog 85 #[.int .i16 a0, .pointer (some adp1)] w fun e w' => e = .returned (.bool r) ∧ Drawn0 w w' := by
 have HR1 := Aside0.mk hr1
 clear hr1
 have H : (if 0 < (l1.length : Int) then ((impl_in.f (wrap64 (a0)) 0 (wrap64 ((((rd_T31 l1 0).f1).length : Int) - 1))).bind fun t229 => (some (!t229))) else (none)) = some r := h
 clear h
 by_cases c3 : 0 < (l1.length : Int)
 rotate_left
 ·rw [if_neg c3] at H
  exact absurd H (by simp)
 rw [if_pos c3] at H
 have c3b0 : decide (0 < (l1.length : Int)) = true := decide_eq_true c3
 have c3b1 : decide (0 < l1.length) = true := decide_eq_true (by omega)
 clear c3
 replace H := zob H
 obtain ⟨t229, A40, H⟩ := H
 replace H : (some (!t229)) = some r := H
 have A4 := Aside0.mk A40
 clear A40
 obtain rfl := Option.some.inj H
 have p228 : 0 ≤ (0 : Int) := (by omega)
 have q228 : 0 < (l1.length : Int) := of_decide_eq_true zA
 obtain ⟨ad228, A228_1, c228_1, A228_2, c228_2, e228, hx228_0, hx228_1, hx228_2, hl228_1, hi228_1, hl228_2, hi228_2⟩ := at_T31 HR1.out 0 p228 q228
 obtain rfl : adp1 = ad228 := (by injection e228)
 have qi228 : (0 < l1.length) = True := eq_true (by omega)
 try simp only [z00, Nat.zero_mul, Addr.add_zero'] at hx228_0 hx228_1 hx228_2
 have HR228_1 := Aside0.mk hi228_1
 have HC228_1 := Aside0.mk hl228_1
 clear hi228_1 hl228_1
 have HR228_2 := Aside0.mk hi228_2
 have HC228_2 := Aside0.mk hl228_2
 clear hi228_2 hl228_2
 replace p228 := eq_true p228
 replace q228 := eq_true q228
 go_enter Try.func85, Try.ntmps85
 go_wp2_with (first | ((with_reducible refine gate_callee (f := 82) rfl ?_); refine goesL_ (some 10) rfl rfl Try.func82 (by kernel_rfl) rfl #[.int .i64 (wrap64 (a0)), .int .i64 0, .int .i64 (wrap64 ((((rd_T31 l1 0).f1).length : Int) - 1))] rfl zm ?_; (with_reducible refine (impl_in.calls (wrap64 (a0)) 0 (wrap64 ((((rd_T31 l1 0).f1).length : Int) - 1)) t229 _ A4.out).mono ?_); rintro e w' ⟨rfl, ⟨nd, rfl⟩⟩; refine ⟨_, rfl, ?_⟩))
 go_ret
 exact ⟨zi, zdr⟩
def slices_IndexFunc__impl_ValidNetwork_1.l0 : Nat → List Int → Int → Int → List (S31) → Option (Int)
  | 0, _, _, _, _ => none
  | k + 1, x0, x7, x8, x2000 => if x8 < x7 then (if 0 ≤ x8 then (if x8 < (x0.length : Int) then ((impl_ValidNetwork_1.f (rd x0 x8) x2000).bind fun t231 => (if t231 = true then (some x8) else (slices_IndexFunc__impl_ValidNetwork_1.l0 k x0 x7 (wrap64 (x8 + 1)) x2000))) else (none)) else (none)) else (some (-1))
def slices_IndexFunc__impl_ValidNetwork_1.f (k : Nat) (l0 : List Int) (l1_0 : List (S31)) : Option (Int) := slices_IndexFunc__impl_ValidNetwork_1.l0 k l0 (l0.length : Int) 0 l1_0
theorem slices_IndexFunc__impl_ValidNetwork_1.mono_l : ∀ k, (∀ y0 y1 y2 y3, LeO (slices_IndexFunc__impl_ValidNetwork_1.l0 k y0 y1 y2 y3) (slices_IndexFunc__impl_ValidNetwork_1.l0 (k + 1) y0 y1 y2 y3))
  | 0 => fun _ _ _ _ r h => by simp [slices_IndexFunc__impl_ValidNetwork_1.l0] at h
  | k + 1 => by
    have ih0 := slices_IndexFunc__impl_ValidNetwork_1.mono_l k
    · intro y0 y1 y2 y3
      unfold slices_IndexFunc__impl_ValidNetwork_1.l0
      repeat' first | (with_reducible first | apply ih0 | exact LeO.refl _ | exact LeO.none _ | refine LeO.ite ?_ ?_ | refine LeO.bind ?_ (fun _ => ?_)) | apply ih0 | exact LeO.none _ | refine LeO.ite ?_ ?_ | refine LeO.bind ?_ (fun _ => ?_)
theorem slices_IndexFunc__impl_ValidNetwork_1.mono : ∀ a0 a1 k, LeO (slices_IndexFunc__impl_ValidNetwork_1.f k a0 a1) (slices_IndexFunc__impl_ValidNetwork_1.f (k + 1) a0 a1) := by
 intro a0 a1 k
 have ih0 := slices_IndexFunc__impl_ValidNetwork_1.mono_l k
 unfold slices_IndexFunc__impl_ValidNetwork_1.f
 repeat' first | (with_reducible first | apply ih0 | exact LeO.refl _ | exact LeO.none _ | refine LeO.ite ?_ ?_ | refine LeO.bind ?_ (fun _ => ?_)) | apply ih0 | exact LeO.none _ | refine LeO.ite ?_ ?_ | refine LeO.bind ?_ (fun _ => ?_)
theorem slices_IndexFunc__impl_ValidNetwork_1.calls (k : Nat) (A0 : Option Addr) (c0 : Nat) (l0 : List Int) (adp1_0 : Addr) (l1_0 : List (S31)) (r : Int) (w : World) (hr0 : Kd.C (Kd.int .i16) w A0 l0.length l0) (hc0 : l0.length ≤ c0) (hr1_0 : Kd.C k31 w (some adp1_0) l1_0.length l1_0) (h : slices_IndexFunc__impl_ValidNetwork_1.f k l0 l1_0 = some r) :
    Calls Try.prog 126 #[.slice A0 l0.length c0, .func (.func 85) #[] #[.pointer (some adp1_0)]] w fun e w' => e = .returned (.int .i64 r) ∧ Drawn0 w w' := by
 have HR0 := Aside0.mk hr0
 have HC0 := Aside0.mk hc0
 clear hr0 hc0
 have HR1_0 := Aside0.mk hr1_0
 clear hr1_0
 have H : (slices_IndexFunc__impl_ValidNetwork_1.l0 k l0 (l0.length : Int) 0 l1_0) = some r := h
 clear h
 have H' := Aside0.mk H
 clear H
 go_enter Try.func126, Try.ntmps126
 go_wp2
 go_loopg [8] k (fun kq v8 w' => ∃ (x8_1 : Int), v8 = .int .i64 x8_1 ∧ Aside0 (slices_IndexFunc__impl_ValidNetwork_1.l0 kq l0 (l0.length : Int) x8_1 l1_0 = some r) ∧ Aside0 (kq ≤ k) ∧ Drawn0 w w')
 case atStart => exact ⟨(0), zi, H', ⟨Nat.le_refl _⟩, zdr⟩
 clear H'
 try clear c1
 try clear p2
 obtain ⟨x8_1, rfl, HA, HK1, ⟨m1, rfl⟩⟩ := hrel
 cases gk with
 | zero => exact absurd HA.out (by simp [slices_IndexFunc__impl_ValidNetwork_1.l0])
 | succ k1 => ?_
 have H := HA.out
 clear HA
 simp only [slices_IndexFunc__impl_ValidNetwork_1.l0] at H
 by_cases c3 : x8_1 < (l0.length : Int)
 rotate_left
 ·rw [if_neg c3] at H
  have c3b0 : decide (x8_1 < (l0.length : Int)) = false := decide_eq_false c3
  clear c3
  obtain rfl := Option.some.inj H
  go_wp2
  go_ret
  exact ⟨zi, zdr⟩
 rw [if_pos c3] at H
 have c3b0 : decide (x8_1 < (l0.length : Int)) = true := decide_eq_true c3
 clear c3
 by_cases c4 : 0 ≤ x8_1
 rotate_left
 ·rw [if_neg c4] at H
  exact absurd H (by simp)
 rw [if_pos c4] at H
 have c4b0 : decide (0 ≤ x8_1) = true := decide_eq_true c4
 clear c4
 by_cases c5 : x8_1 < (l0.length : Int)
 rotate_left
 ·rw [if_neg c5] at H
  exact absurd H (by simp)
 rw [if_pos c5] at H
 have c5b0 : decide (x8_1 < (l0.length : Int)) = true := decide_eq_true c5
 clear c5
 replace H := zob H
 obtain ⟨t231, A60, H⟩ := H
 replace H : (if t231 = true then (some x8_1) else (slices_IndexFunc__impl_ValidNetwork_1.l0 k1 l0 (l0.length : Int) (wrap64 (x8_1 + 1)) l1_0)) = some r := H
 have A6 := Aside0.mk A60
 clear A60
 by_cases c7 : t231 = true
 ·subst c7
  have H1 : (some x8_1) = some r := by rw [if_pos rfl] at H; exact H
  clear H
  have H := H1
  clear H1
  obtain rfl := Option.some.inj H
  have p230 : 0 ≤ (x8_1 : Int) := of_decide_eq_true zA
  have q230 : x8_1 < (l0.length : Int) := of_decide_eq_true zA
  obtain ⟨ad230, e230, hx230_0⟩ := Kd.at_int HR0.out x8_1 p230 q230
  cases e230
  replace p230 := eq_true p230
  replace q230 := eq_true q230
  go_wp2_with (first | (go_at_call 85; (with_reducible refine (impl_ValidNetwork_1.calls (rd l0 x8_1) _ l1_0 true _ ?side1 A6.out).mono ?_); (case side1 => repeat (first | exact HR1_0.out | (with_reducible refine Kd.C_alloc ?_ _) | (with_reducible refine Kd.C_drewN ?_ _) | (with_reducible refine Kd.C_drew ?_))); rintro e w' ⟨rfl, ⟨nd, rfl⟩⟩))
  go_ret
  exact ⟨zi, zdr⟩
 replace c7 := Bool.eq_false_iff.mpr c7
 subst c7
 have H1 : (slices_IndexFunc__impl_ValidNetwork_1.l0 k1 l0 (l0.length : Int) (wrap64 (x8_1 + 1)) l1_0) = some r := by rw [if_neg (show ¬ (false = true) by decide)] at H; exact H
 clear H
 have H := H1
 clear H1
 have H' := Aside0.mk H
 clear H
 have p230 : 0 ≤ (x8_1 : Int) := of_decide_eq_true zA
 have q230 : x8_1 < (l0.length : Int) := of_decide_eq_true zA
 obtain ⟨ad230, e230, hx230_0⟩ := Kd.at_int HR0.out x8_1 p230 q230
 cases e230
 replace p230 := eq_true p230
 replace q230 := eq_true q230
 go_wp2_with (first | (go_at_call 85; (with_reducible refine (impl_ValidNetwork_1.calls (rd l0 x8_1) _ l1_0 false _ ?side1 A6.out).mono ?_); (case side1 => repeat (first | exact HR1_0.out | (with_reducible refine Kd.C_alloc ?_ _) | (with_reducible refine Kd.C_drewN ?_ _) | (with_reducible refine Kd.C_drew ?_))); rintro e w' ⟨rfl, ⟨nd, rfl⟩⟩))
 go_roundg k1
 case measure => have := HK1.out; omega
 case rel => exact ⟨(wrap64 (x8_1 + 1)), zi, H', ⟨by have := HK1.out; omega⟩, zdr⟩
def slices_ContainsFunc__impl_ValidNetwork_1.f (k : Nat) (l0 : List Int) (l1_0 : List (S31)) : Option (Bool) := (slices_IndexFunc__impl_ValidNetwork_1.f k l0 l1_0).bind fun t232 => (some (decide (t232 ≥ 0)))
theorem slices_ContainsFunc__impl_ValidNetwork_1.mono : ∀ a0 a1 k, LeO (slices_ContainsFunc__impl_ValidNetwork_1.f k a0 a1) (slices_ContainsFunc__impl_ValidNetwork_1.f (k + 1) a0 a1) := by
 intro a0 a1 k
 unfold slices_ContainsFunc__impl_ValidNetwork_1.f
 repeat' first | (with_reducible first | apply slices_IndexFunc__impl_ValidNetwork_1.mono | exact LeO.refl _ | exact LeO.none _ | refine LeO.ite ?_ ?_ | refine LeO.bind ?_ (fun _ => ?_)) | apply slices_IndexFunc__impl_ValidNetwork_1.mono | exact LeO.none _ | refine LeO.ite ?_ ?_ | refine LeO.bind ?_ (fun _ => ?_)
theorem slices_ContainsFunc__impl_ValidNetwork_1.calls (k : Nat) (A0 : Option Addr) (c0 : Nat) (l0 : List Int) (adp1_0 : Addr) (l1_0 : List (S31)) (r : Bool) (w : World) (hr0 : Kd.C (Kd.int .i16) w A0 l0.length l0) (hc0 : l0.length ≤ c0) (hr1_0 : Kd.C k31 w (some adp1_0) l1_0.length l1_0) (h : slices_ContainsFunc__impl_ValidNetwork_1.f k l0 l1_0 = some r) :
    Calls Try.prog 84 #[.slice A0 l0.length c0, .func (.func 85) #[] #[.pointer (some adp1_0)]] w fun e w' => e = .returned (.bool r) ∧ Drawn0 w w' := by
 have HR0 := Aside0.mk hr0
 have HC0 := Aside0.mk hc0
 clear hr0 hc0
 have HR1_0 := Aside0.mk hr1_0
 clear hr1_0
 have H : ((slices_IndexFunc__impl_ValidNetwork_1.f k l0 l1_0).bind fun t232 => (some (decide (t232 ≥ 0)))) = some r := h
 clear h
 replace H := zob H
 obtain ⟨t232, A30, H⟩ := H
 replace H : (some (decide (t232 ≥ 0))) = some r := H
 have A3 := Aside0.mk A30
 clear A30
 obtain rfl := Option.some.inj H
 go_enter Try.func84, Try.ntmps84
 go_wp2_with (first | ((with_reducible refine gate_callee (f := 126) rfl ?_); refine goesL_ (some 7) rfl rfl Try.func126 (by kernel_rfl) rfl #[.slice A0 l0.length c0, .func (.func 85) #[] #[.pointer (some adp1_0)]] rfl zm ?_; (with_reducible refine (slices_IndexFunc__impl_ValidNetwork_1.calls k _ _ l0 _ l1_0 t232 _ ?side1 ?side2 ?side3 A3.out).mono ?_); (case side1 => repeat (first | exact HR0.out | (with_reducible refine Kd.C_alloc ?_ _) | (with_reducible refine Kd.C_drewN ?_ _) | (with_reducible refine Kd.C_drew ?_))); (case side2 => exact HC0.out); (case side3 => repeat (first | exact HR1_0.out | (with_reducible refine Kd.C_alloc ?_ _) | (with_reducible refine Kd.C_drewN ?_ _) | (with_reducible refine Kd.C_drew ?_))); rintro e w' ⟨rfl, ⟨nd, rfl⟩⟩; refine ⟨_, rfl, ?_⟩))
 go_ret
 exact ⟨zi, zdr⟩
mutual
def impl_ValidNetwork.j0 : Nat → Bool → Int → List (S81) → List Int → Option (Bool)
  | 0, _, _, _, _ => none
  | k + 1, x23, x234000, x234001, x234002 => if x23 = true then (some false) else (impl_ValidNetwork.l0 k x234001 (x234001.length : Int) 0 x234000 x234001 x234002)
def impl_ValidNetwork.l0 : Nat → List (S81) → Int → Int → Int → List (S81) → List Int → Option (Bool)
  | 0, _, _, _, _, _, _ => none
  | k + 1, x25, x26, x27, x234000, x234001, x234002 => if x27 < x26 then (if 0 ≤ x27 then (if x27 < (x25.length : Int) then ((impl_Node_ok.f k ((rd_T81 x25 x27).f0) ((rd_T81 x25 x27).f1) ((rd_T81 x25 x27).f2) (wrap64 (x234000)) x27).bind fun t239 => (if t239 = true then (impl_ValidNetwork.l0 k x25 x26 (wrap64 (x27 + 1)) x234000 x234001 x234002) else (some false))) else (none)) else (none)) else ((slices_ContainsFunc__impl_ValidNetwork_1.f k x234002 [(⟨x234000, x234001, x234002⟩ : S31)]).bind fun t240 => (some (!t240)))
end
def impl_ValidNetwork.f (k : Nat) (a0_0 : Int) (l0_1 : List (S81)) (l0_2 : List Int) : Option (Bool) := (impl_in.f (wrap64 (a0_0)) 1 6).bind fun t234 => (if t234 = true then ((impl_in.f (l0_1.length : Int) 1 80).bind fun t235 => (if t235 = true then ((impl_in.f (l0_2.length : Int) 1 8).bind fun t236 => (impl_ValidNetwork.j0 k (!t236) a0_0 l0_1 l0_2)) else (impl_ValidNetwork.j0 k true a0_0 l0_1 l0_2))) else (impl_ValidNetwork.j0 k true a0_0 l0_1 l0_2))
theorem impl_ValidNetwork.mono_l : ∀ k, (∀ y0 y1 y2 y3, LeO (impl_ValidNetwork.j0 k y0 y1 y2 y3) (impl_ValidNetwork.j0 (k + 1) y0 y1 y2 y3)) ∧ (∀ y0 y1 y2 y3 y4 y5, LeO (impl_ValidNetwork.l0 k y0 y1 y2 y3 y4 y5) (impl_ValidNetwork.l0 (k + 1) y0 y1 y2 y3 y4 y5))
  | 0 => ⟨fun _ _ _ _ r h => by simp [impl_ValidNetwork.j0] at h, fun _ _ _ _ _ _ r h => by simp [impl_ValidNetwork.l0] at h⟩
  | k + 1 => by
    obtain ⟨ih0, ih1⟩ := impl_ValidNetwork.mono_l k
    refine ⟨?_, ?_⟩
    · intro y0 y1 y2 y3
      unfold impl_ValidNetwork.j0
      repeat' first | (with_reducible first | apply ih0 | apply ih1 | apply impl_Node_ok.mono | apply slices_ContainsFunc__impl_ValidNetwork_1.mono | exact LeO.refl _ | exact LeO.none _ | refine LeO.ite ?_ ?_ | refine LeO.bind ?_ (fun _ => ?_)) | apply ih0 | apply ih1 | apply impl_Node_ok.mono | apply slices_ContainsFunc__impl_ValidNetwork_1.mono | exact LeO.none _ | refine LeO.ite ?_ ?_ | refine LeO.bind ?_ (fun _ => ?_)
    · intro y0 y1 y2 y3 y4 y5
      unfold impl_ValidNetwork.l0
      repeat' first | (with_reducible first | apply ih0 | apply ih1 | apply impl_Node_ok.mono | apply slices_ContainsFunc__impl_ValidNetwork_1.mono | exact LeO.refl _ | exact LeO.none _ | refine LeO.ite ?_ ?_ | refine LeO.bind ?_ (fun _ => ?_)) | apply ih0 | apply ih1 | apply impl_Node_ok.mono | apply slices_ContainsFunc__impl_ValidNetwork_1.mono | exact LeO.none _ | refine LeO.ite ?_ ?_ | refine LeO.bind ?_ (fun _ => ?_)
theorem impl_ValidNetwork.mono : ∀ a0 a1 a2 k, LeO (impl_ValidNetwork.f k a0 a1 a2) (impl_ValidNetwork.f (k + 1) a0 a1 a2) := by
 intro a0 a1 a2 k
 obtain ⟨ih0, ih1⟩ := impl_ValidNetwork.mono_l k
 unfold impl_ValidNetwork.f
 repeat' first | (with_reducible first | apply ih0 | apply ih1 | apply impl_Node_ok.mono | apply slices_ContainsFunc__impl_ValidNetwork_1.mono | exact LeO.refl _ | exact LeO.none _ | refine LeO.ite ?_ ?_ | refine LeO.bind ?_ (fun _ => ?_)) | apply ih0 | apply ih1 | apply impl_Node_ok.mono | apply slices_ContainsFunc__impl_ValidNetwork_1.mono | exact LeO.none _ | refine LeO.ite ?_ ?_ | refine LeO.bind ?_ (fun _ => ?_)
theorem impl_ValidNetwork.calls (k : Nat) (a0_0 : Int) (A0_1 : Option Addr) (c0_1 : Nat) (l0_1 : List (S81)) (A0_2 : Option Addr) (c0_2 : Nat) (l0_2 : List Int) (r : Bool) (w : World) (hr0_1 : Kd.C k81 w A0_1 l0_1.length l0_1) (hc0_1 : l0_1.length ≤ c0_1) (hr0_2 : Kd.C (Kd.int .i16) w A0_2 l0_2.length l0_2) (hc0_2 : l0_2.length ≤ c0_2) (h : impl_ValidNetwork.f k a0_0 l0_1 l0_2 = some r) :
    Calls Try.prog 27 #[.agg #[.int .i8 a0_0, .slice A0_1 l0_1.length c0_1, .slice A0_2 l0_2.length c0_2]] w fun e w' => e = .returned (.bool r) ∧ Below w.heap.size w w' := by
 have hu31 := Try.underlying31
 have hu81 := Try.underlying81
 have HR0_1 := Aside0.mk hr0_1
 have HC0_1 := Aside0.mk hc0_1
 clear hr0_1 hc0_1
 have HR0_2 := Aside0.mk hr0_2
 have HC0_2 := Aside0.mk hc0_2
 clear hr0_2 hc0_2
 have HB := Aside0.mk (Below.refl w.heap.size w)
 have H : ((impl_in.f (wrap64 (a0_0)) 1 6).bind fun t234 => (if t234 = true then ((impl_in.f (l0_1.length : Int) 1 80).bind fun t235 => (if t235 = true then ((impl_in.f (l0_2.length : Int) 1 8).bind fun t236 => (impl_ValidNetwork.j0 k (!t236) a0_0 l0_1 l0_2)) else (impl_ValidNetwork.j0 k true a0_0 l0_1 l0_2))) else (impl_ValidNetwork.j0 k true a0_0 l0_1 l0_2))) = some r := h
 clear h
 have HC2 := Aside0.mk H
 clear H
 go_enter Try.func27, Try.ntmps27
 go_upto_region 1 with (first | ((with_reducible refine gate_dst (N := 1) rfl ?_); (try (refine gate_guard (by rfl) ?_; dsimp only)); refine zbx 1 #[.int .i8 a0_0, .slice A0_1 l0_1.length c0_1, .slice A0_2 l0_2.length c0_2] 31 ?_; intro gb233 hg w3 hbox hb; have n_ : _ ∧ _ ∧ _ ∧ _ := ⟨zb HB hb, Aside0.mk (hbox), zg HB hg, zg HB hg⟩; clear HB; obtain ⟨HB, BK233, GW233, GE233⟩ := n_; clear hb hbox hg))
 (try simp only [Act.put, List.setIfInBounds_toArray, List.set_cons_zero, List.set_cons_succ])
 go_cut [23] (fun v23 wc => ∃ (kq : Nat) (x23_1 : Bool), v23 = .bool x23_1 ∧ Aside0 (impl_ValidNetwork.j0 kq x23_1 a0_0 l0_1 l0_2 = some r) ∧ Aside0 (kq ≤ k) ∧ Aside0 (wc.heap[gb233]? = some (.cells #[.int .i8 a0_0, (.slice A0_1 l0_1.length c0_1), (.slice A0_2 l0_2.length c0_2)] 31 (0, 0))) ∧ Aside0 (Below w.heap.size w wc))
 case first =>
  have H := HC2.out
  clear HC2
  replace H := zob H
  obtain ⟨t234, A40, H⟩ := H
  replace H : (if t234 = true then ((impl_in.f (l0_1.length : Int) 1 80).bind fun t235 => (if t235 = true then ((impl_in.f (l0_2.length : Int) 1 8).bind fun t236 => (impl_ValidNetwork.j0 k (!t236) a0_0 l0_1 l0_2)) else (impl_ValidNetwork.j0 k true a0_0 l0_1 l0_2))) else (impl_ValidNetwork.j0 k true a0_0 l0_1 l0_2)) = some r := H
  have A4 := Aside0.mk A40
  clear A40
  by_cases c5 : t234 = true
  rotate_left
  ·replace c5 := Bool.eq_false_iff.mpr c5
   subst c5
   have H1 : (impl_ValidNetwork.j0 k true a0_0 l0_1 l0_2) = some r := by rw [if_neg (show ¬ (false = true) by decide)] at H; exact H
   clear H
   have H := H1
   clear H1
   have H' := Aside0.mk H
   clear H
   obtain ⟨z11_0, z11_1, z11_2, y11_0, y11_1, y11_2⟩ := zB3 BK233
   go_wp2_with (first | ((with_reducible refine gate_callee (f := 82) rfl ?_); refine goesL_ (some 8) rfl rfl Try.func82 (by kernel_rfl) rfl #[.int .i64 (wrap64 (a0_0)), .int .i64 1, .int .i64 6] rfl zm ?_; (with_reducible refine (impl_in.calls (wrap64 (a0_0)) 1 6 false _ A4.out).mono ?_); rintro e w' ⟨rfl, ⟨nd, rfl⟩⟩; refine ⟨_, rfl, ?_⟩))
   go_meet
   case rel => exact ⟨_, (true), zi, H', ⟨by first | omega | exact Nat.le_refl _⟩, zh BK233, zba⟩
  subst c5
  have H1 : ((impl_in.f (l0_1.length : Int) 1 80).bind fun t235 => (if t235 = true then ((impl_in.f (l0_2.length : Int) 1 8).bind fun t236 => (impl_ValidNetwork.j0 k (!t236) a0_0 l0_1 l0_2)) else (impl_ValidNetwork.j0 k true a0_0 l0_1 l0_2))) = some r := by rw [if_pos rfl] at H; exact H
  clear H
  have H := H1
  clear H1
  replace H := zob H
  obtain ⟨t235, A60, H⟩ := H
  replace H : (if t235 = true then ((impl_in.f (l0_2.length : Int) 1 8).bind fun t236 => (impl_ValidNetwork.j0 k (!t236) a0_0 l0_1 l0_2)) else (impl_ValidNetwork.j0 k true a0_0 l0_1 l0_2)) = some r := H
  have A6 := Aside0.mk A60
  clear A60
  by_cases c7 : t235 = true
  rotate_left
  ·replace c7 := Bool.eq_false_iff.mpr c7
   subst c7
   have H1 : (impl_ValidNetwork.j0 k true a0_0 l0_1 l0_2) = some r := by rw [if_neg (show ¬ (false = true) by decide)] at H; exact H
   clear H
   have H := H1
   clear H1
   have H' := Aside0.mk H
   clear H
   obtain ⟨z10_0, z10_1, z10_2, y10_0, y10_1, y10_2⟩ := zB3 BK233
   go_wp2_with (first | ((with_reducible refine gate_callee (f := 82) rfl ?_); refine goesL_ (some 8) rfl rfl Try.func82 (by kernel_rfl) rfl #[.int .i64 (wrap64 (a0_0)), .int .i64 1, .int .i64 6] rfl zm ?_; (with_reducible refine (impl_in.calls (wrap64 (a0_0)) 1 6 true _ A4.out).mono ?_); rintro e w' ⟨rfl, ⟨nd, rfl⟩⟩; refine ⟨_, rfl, ?_⟩) | (go_at_call 82; (with_reducible refine (impl_in.calls (l0_1.length : Int) 1 80 false _ A6.out).mono ?_); rintro e w' ⟨rfl, ⟨nd, rfl⟩⟩))
   go_meet
   case rel => exact ⟨_, (true), zi, H', ⟨by first | omega | exact Nat.le_refl _⟩, zh BK233, zba⟩
  subst c7
  have H1 : ((impl_in.f (l0_2.length : Int) 1 8).bind fun t236 => (impl_ValidNetwork.j0 k (!t236) a0_0 l0_1 l0_2)) = some r := by rw [if_pos rfl] at H; exact H
  clear H
  have H := H1
  clear H1
  replace H := zob H
  obtain ⟨t236, A80, H⟩ := H
  replace H : (impl_ValidNetwork.j0 k (!t236) a0_0 l0_1 l0_2) = some r := H
  have A8 := Aside0.mk A80
  clear A80
  have H' := Aside0.mk H
  clear H
  obtain ⟨z9_0, z9_1, z9_2, y9_0, y9_1, y9_2⟩ := zB3 BK233
  go_wp2_with (first | ((with_reducible refine gate_callee (f := 82) rfl ?_); refine goesL_ (some 8) rfl rfl Try.func82 (by kernel_rfl) rfl #[.int .i64 (wrap64 (a0_0)), .int .i64 1, .int .i64 6] rfl zm ?_; (with_reducible refine (impl_in.calls (wrap64 (a0_0)) 1 6 true _ A4.out).mono ?_); rintro e w' ⟨rfl, ⟨nd, rfl⟩⟩; refine ⟨_, rfl, ?_⟩) | (go_at_call 82; (with_reducible refine (impl_in.calls (l0_1.length : Int) 1 80 true _ A6.out).mono ?_); rintro e w' ⟨rfl, ⟨nd, rfl⟩⟩) | (go_at_call 82; (with_reducible refine (impl_in.calls (l0_2.length : Int) 1 8 t236 _ A8.out).mono ?_); rintro e w' ⟨rfl, ⟨nd, rfl⟩⟩))
  go_meet
  case rel => exact ⟨_, (!t236), zi, H', ⟨by first | omega | exact Nat.le_refl _⟩, zh BK233, zba⟩
 clear HC2
 try clear c2
 try clear p2
 try clear c5
 try clear p6
 try clear c7
 try clear c8
 try clear z10_0 z10_1 z10_2
 try clear z11_0 z11_1 z11_2
 try clear z9_0 z9_1 z9_2
 try clear y10_0
 try clear y10_1
 try clear y10_2
 try clear y11_0
 try clear y11_1
 try clear y11_2
 try clear y9_0
 try clear y9_1
 try clear y9_2
 obtain ⟨kq, x23_1, rfl, HA, HJ1, BK233, HB⟩ := hcut
 cases kq with
 | zero => exact absurd HA.out (by simp [impl_ValidNetwork.j0])
 | succ kj1 => ?_
 have H := HA.out
 clear HA
 simp only [impl_ValidNetwork.j0] at H
 by_cases c12 : x23_1 = true
 ·subst c12
  have H1 : (some false) = some r := by rw [if_pos rfl] at H; exact H
  clear H
  have H := H1
  clear H1
  obtain rfl := Option.some.inj H
  go_wp2
  go_ret
  exact ⟨zv, zbo⟩
 replace c12 := Bool.eq_false_iff.mpr c12
 subst c12
 have H1 : (impl_ValidNetwork.l0 kj1 l0_1 (l0_1.length : Int) 0 a0_0 l0_1 l0_2) = some r := by rw [if_neg (show ¬ (false = true) by decide)] at H; exact H
 clear H
 have H := H1
 clear H1
 have H' := Aside0.mk H
 clear H
 obtain ⟨z13_0, z13_1, z13_2, y13_0, y13_1, y13_2⟩ := zB3 BK233
 go_wp2
 go_loopg [27] kj1 (fun kq v27 w' => ∃ (x27_2 : Int), v27 = .int .i64 x27_2 ∧ Aside0 (impl_ValidNetwork.l0 kq l0_1 (l0_1.length : Int) x27_2 a0_0 l0_1 l0_2 = some r) ∧ Aside0 (kq ≤ kj1) ∧ Aside0 (w'.heap[gb233]? = some (.cells #[.int .i8 a0_0, (.slice A0_1 l0_1.length c0_1), (.slice A0_2 l0_2.length c0_2)] 31 (0, 0))) ∧ Aside0 (Below w.heap.size w w'))
 case atStart => exact ⟨(0), zi, H', ⟨Nat.le_refl _⟩, zh BK233, zba⟩
 clear H'
 try clear c1
 try clear c2
 try clear p2
 try clear c5
 try clear p6
 try clear c7
 try clear c8
 try clear c12
 try clear z10_0 z10_1 z10_2
 try clear z11_0 z11_1 z11_2
 try clear z13_0 z13_1 z13_2
 try clear z9_0 z9_1 z9_2
 try clear y10_0
 try clear y10_1
 try clear y10_2
 try clear y11_0
 try clear y11_1
 try clear y11_2
 try clear y13_0
 try clear y13_1
 try clear y13_2
 try clear y9_0
 try clear y9_1
 try clear y9_2
 try clear p2
 try clear p6
 obtain ⟨x27_2, rfl, HA, HK2, BK233, HB⟩ := hrel
 cases gk with
 | zero => exact absurd HA.out (by simp [impl_ValidNetwork.l0])
 | succ k2 => ?_
 have H := HA.out
 clear HA
 simp only [impl_ValidNetwork.l0] at H
 by_cases c14 : x27_2 < (l0_1.length : Int)
 rotate_left
 ·rw [if_neg c14] at H
  have c14b0 : decide (x27_2 < (l0_1.length : Int)) = false := decide_eq_false c14
  clear c14
  replace H := zob H
  obtain ⟨t240, A290, H⟩ := H
  replace H : (some (!t240)) = some r := H
  have A29 := Aside0.mk A290
  clear A290
  obtain rfl := Option.some.inj H
  obtain ⟨z30_0, z30_1, z30_2, y30_0, y30_1, y30_2⟩ := zB3 BK233
  go_wp2_with (first | ((with_reducible refine gate_callee (f := 84) rfl ?_); refine goesL_ (some 43) rfl rfl Try.func84 (by kernel_rfl) rfl #[.slice A0_2 l0_2.length c0_2, .func (.func 85) #[] #[.pointer (some ⟨gb233, 0, none⟩)]] rfl zm ?_; (with_reducible refine (slices_ContainsFunc__impl_ValidNetwork_1.calls k2 _ _ l0_2 _ [(⟨a0_0, l0_1, l0_2⟩ : S31)] t240 _ ?side1 ?side2 ?side3 A29.out).mono ?_); (case side1 => exact zcc HB HR0_2.out); (case side2 => exact HC0_2.out); (case side3 => refine ro_of_blk (T := 31) (cs := #[.int .i8 a0_0, .slice A0_1 l0_1.length c0_1, .slice A0_2 l0_2.length c0_2]) (zh BK233).out ?_; exact k31_mk _ (⟨a0_0, l0_1, l0_2⟩ : S31) (by exact HC0_1.out) (by exact zcc HB HR0_1.out) (by exact HC0_2.out) (by exact zcc HB HR0_2.out)); rintro e w' ⟨rfl, ⟨nd, rfl⟩⟩; refine ⟨_, rfl, ?_⟩))
  go_ret
  exact ⟨zv, zbo⟩
 rw [if_pos c14] at H
 have c14b0 : decide (x27_2 < (l0_1.length : Int)) = true := decide_eq_true c14
 clear c14
 by_cases c15 : 0 ≤ x27_2
 rotate_left
 ·rw [if_neg c15] at H
  exact absurd H (by simp)
 rw [if_pos c15] at H
 have c15b0 : decide (0 ≤ x27_2) = true := decide_eq_true c15
 clear c15
 by_cases c16 : x27_2 < (l0_1.length : Int)
 rotate_left
 ·rw [if_neg c16] at H
  exact absurd H (by simp)
 rw [if_pos c16] at H
 have c16b0 : decide (x27_2 < (l0_1.length : Int)) = true := decide_eq_true c16
 clear c16
 replace H := zob H
 obtain ⟨t239, A170, H⟩ := H
 replace H : (if t239 = true then (impl_ValidNetwork.l0 k2 l0_1 (l0_1.length : Int) (wrap64 (x27_2 + 1)) a0_0 l0_1 l0_2) else (some false)) = some r := H
 have A17 := Aside0.mk A170
 clear A170
 by_cases c18 : t239 = true
 ·subst c18
  have H1 : (impl_ValidNetwork.l0 k2 l0_1 (l0_1.length : Int) (wrap64 (x27_2 + 1)) a0_0 l0_1 l0_2) = some r := by rw [if_pos rfl] at H; exact H
  clear H
  have H := H1
  clear H1
  have H' := Aside0.mk H
  clear H
  have p237 : 0 ≤ (x27_2 : Int) := of_decide_eq_true zA
  have q237 : x27_2 < (l0_1.length : Int) := of_decide_eq_true zA
  obtain ⟨ad237, e237, hx237_0, hx237_1, hx237_2⟩ := at_T81 HR0_1.out x27_2 p237 q237
  cases e237
  replace hx237_0 := zc HB hx237_0
  replace hx237_1 := zc HB hx237_1
  replace hx237_2 := zc HB hx237_2
  replace p237 := eq_true p237
  replace q237 := eq_true q237
  go_wp2_with (first | ((with_reducible refine gate_dst (N := 4) rfl ?_); (try (refine gate_guard (by rfl) ?_; dsimp only)); refine zbx 4 #[.int .i8 0, .int .i16 0, .int .i16 0] 81 ?_; intro gb238 hg w19 hbox hb; have n_ : _ ∧ _ ∧ _ ∧ _ ∧ _ ∧ _ ∧ _ := ⟨zk BK233 hb, zbs hb, Aside0.mk (hbox), zg HB hg, zg HB hg, zn1 BK233 hg, zn2 BK233 hg⟩; clear BK233 HB; obtain ⟨BK233, HB, BK238, GW238, GE238, NB233_238, NB238_233⟩ := n_; clear hb hbox hg; have hnb20 := NB238_233.out; have hnc20 := NB233_238.out; obtain ⟨z21_0, z21_1, z21_2, y21_0, y21_1, y21_2⟩ := zB3 BK238; obtain ⟨z22_0, z22_1, z22_2, y22_0, y22_1, y22_2⟩ := zB3 BK233) | ((with_reducible refine gate_callee (f := 83) rfl ?_); refine goesL_ (some 37) rfl rfl Try.func83 (by kernel_rfl) rfl #[.agg #[.int .i8 ((rd_T81 l0_1 x27_2).f0), .int .i16 ((rd_T81 l0_1 x27_2).f1), .int .i16 ((rd_T81 l0_1 x27_2).f2)], .int .i64 (wrap64 (a0_0)), .int .i64 x27_2] rfl zm ?_; (with_reducible refine (impl_Node_ok.calls k2 ((rd_T81 l0_1 x27_2).f0) ((rd_T81 l0_1 x27_2).f1) ((rd_T81 l0_1 x27_2).f2) (wrap64 (a0_0)) x27_2 true _ A17.out).mono ?_); rintro e w23 ⟨rfl, hb⟩; refine ⟨_, rfl, ?_⟩; have n_ : _ ∧ _ ∧ _ := ⟨zfb BK233 NB233_238 hb, Aside0.mk (blk_below (g := gb238) (o := .cells #[.int .i8 ((rd_T81 l0_1 x27_2).f0), .int .i16 ((rd_T81 l0_1 x27_2).f1), .int .i16 ((rd_T81 l0_1 x27_2).f2)] 81 (0, 0)) (zp BK238) hb), zbs hb⟩; clear BK233 BK238 HB; obtain ⟨BK233, BK238, HB⟩ := n_; (try clear hb); (try clear hb2); (try clear hk); (try clear hi)))
  go_roundg k2
  case measure => have := HJ1.out; have := HK2.out; omega
  case rel => exact ⟨(wrap64 (x27_2 + 1)), zi, H', ⟨by have := HJ1.out; have := HK2.out; omega⟩, zh BK233, zba⟩
 replace c18 := Bool.eq_false_iff.mpr c18
 subst c18
 have H1 : (some false) = some r := by rw [if_neg (show ¬ (false = true) by decide)] at H; exact H
 clear H
 have H := H1
 clear H1
 obtain rfl := Option.some.inj H
 have p237 : 0 ≤ (x27_2 : Int) := of_decide_eq_true zA
 have q237 : x27_2 < (l0_1.length : Int) := of_decide_eq_true zA
 obtain ⟨ad237, e237, hx237_0, hx237_1, hx237_2⟩ := at_T81 HR0_1.out x27_2 p237 q237
 cases e237
 replace hx237_0 := zc HB hx237_0
 replace hx237_1 := zc HB hx237_1
 replace hx237_2 := zc HB hx237_2
 replace p237 := eq_true p237
 replace q237 := eq_true q237
 go_wp2_with (first | ((with_reducible refine gate_dst (N := 4) rfl ?_); (try (refine gate_guard (by rfl) ?_; dsimp only)); refine zbx 4 #[.int .i8 0, .int .i16 0, .int .i16 0] 81 ?_; intro gb238 hg w24 hbox hb; have n_ : _ ∧ _ ∧ _ ∧ _ ∧ _ ∧ _ ∧ _ := ⟨zk BK233 hb, zbs hb, Aside0.mk (hbox), zg HB hg, zg HB hg, zn1 BK233 hg, zn2 BK233 hg⟩; clear BK233 HB; obtain ⟨BK233, HB, BK238, GW238, GE238, NB233_238, NB238_233⟩ := n_; clear hb hbox hg; have hnb25 := NB238_233.out; have hnc25 := NB233_238.out; obtain ⟨z26_0, z26_1, z26_2, y26_0, y26_1, y26_2⟩ := zB3 BK238; obtain ⟨z27_0, z27_1, z27_2, y27_0, y27_1, y27_2⟩ := zB3 BK233) | ((with_reducible refine gate_callee (f := 83) rfl ?_); refine goesL_ (some 37) rfl rfl Try.func83 (by kernel_rfl) rfl #[.agg #[.int .i8 ((rd_T81 l0_1 x27_2).f0), .int .i16 ((rd_T81 l0_1 x27_2).f1), .int .i16 ((rd_T81 l0_1 x27_2).f2)], .int .i64 (wrap64 (a0_0)), .int .i64 x27_2] rfl zm ?_; (with_reducible refine (impl_Node_ok.calls k2 ((rd_T81 l0_1 x27_2).f0) ((rd_T81 l0_1 x27_2).f1) ((rd_T81 l0_1 x27_2).f2) (wrap64 (a0_0)) x27_2 false _ A17.out).mono ?_); rintro e w28 ⟨rfl, hb⟩; refine ⟨_, rfl, ?_⟩; have n_ : _ ∧ _ ∧ _ := ⟨zfb BK233 NB233_238 hb, Aside0.mk (blk_below (g := gb238) (o := .cells #[.int .i8 ((rd_T81 l0_1 x27_2).f0), .int .i16 ((rd_T81 l0_1 x27_2).f1), .int .i16 ((rd_T81 l0_1 x27_2).f2)] 81 (0, 0)) (zp BK238) hb), zbs hb⟩; clear BK233 BK238 HB; obtain ⟨BK233, BK238, HB⟩ := n_; (try clear hb); (try clear hb2); (try clear hk); (try clear hi)))
 go_ret
 exact ⟨zv, zbo⟩
end Go.Proofs.Ytmpmanfoiocfgaa.PFnExactTrimNetwork
