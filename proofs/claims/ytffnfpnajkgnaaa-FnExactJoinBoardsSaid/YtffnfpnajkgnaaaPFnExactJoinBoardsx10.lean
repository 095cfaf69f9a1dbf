-- WRITTEN by xprint.py, a program of this session's. Not trusted: Lean checks it.
-- packed by pack.py
import Derived.Test.YtffnfpnajkgnaaaPFnExactJoinBoardsx0
import Derived.Test.YtffnfpnajkgnaaaPFnExactJoinBoardsx8
import Derived.Test.YtffnfpnajkgnaaaPFnExactJoinBoardsx9
import Derived.Test.YtffnfpnajkgnaaaTFnExactJoinBoardsa
namespace Go.Proofs.Ytffnfpnajkgnaaa.PFnExactJoinBoards
open Go.RowKit Go.Proofs.YtffnfpnajkgnaaaW.PrintWords Go.Proofs.YtffnfpnajkgnaaaW.PrintLast Go.Proofs.YtffnfpnajkgnaaaW.PrintMore Go.Proofs.YtffnfpnajkgnaaaX
attribute [local go_sem] max2_int min2_int max_two min_two max_three min_three max_four min_four   -- for this text's walks alone
set_option maxHeartbeats 8000000
set_option maxRecDepth 100000
set_option linter.unusedVariables false
set_option linter.unusedSimpArgs false

def impl_JoinBoards.j0 : Nat → Bool → Int → Int → List (S91) → Int → Int → List (S91) → Option (Int × Int × (List (S91)) × Int)
  | 0, _, _, _, _, _, _, _ => none
  | k + 1, x6, x247000, x247001, x247002, x248000, x248001, x248002 => if x6 = true then (some (0, 0, ([] : List (S91)), 1)) else ((slices_ContainsFunc__impl_JoinBoards_1.f k x248002 [(⟨x247000, x247001, x247002⟩ : S37)]).bind fun t251 => (if t251 = true then (some (0, 0, ([] : List (S91)), 2)) else ((slices_ContainsFunc__impl_JoinBoards_2.f k x248002 [(⟨x247000, x247001, x247002⟩ : S37)]).bind fun t252 => (if t252 = true then (some (0, 0, ([] : List (S91)), 4)) else (if (wrap64 ((x247002.length : Int) + (x248002.length : Int))) > 200 then (some (0, 0, ([] : List (S91)), 3)) else ((impl_Piece_142.f k (([x247002, x248002] : List (List (S91))))).bind fun t256 => ((impl_Board_with.f [(⟨x247000, x247001, x247002⟩ : S37)] t256).bind fun bt259 => (some (bt259.1, bt259.2, t256, 0)))))))))
def impl_JoinBoards.f (k : Nat) (a0_0 : Int) (a0_1 : Int) (l0_2 : List (S91)) (a1_0 : Int) (a1_1 : Int) (l1_2 : List (S91)) : Option (Int × Int × (List (S91)) × Int) := (impl_ValidBoard.f k a0_0 a0_1 l0_2).bind fun t249 => (if t249 = true then ((impl_ValidBoard.f k a1_0 a1_1 l1_2).bind fun t250 => (impl_JoinBoards.j0 k (!t250) a0_0 a0_1 l0_2 a1_0 a1_1 l1_2)) else (impl_JoinBoards.j0 k true a0_0 a0_1 l0_2 a1_0 a1_1 l1_2))
theorem impl_JoinBoards.mono_l : ∀ k, (∀ y0 y1 y2 y3 y4 y5 y6, LeO (impl_JoinBoards.j0 k y0 y1 y2 y3 y4 y5 y6) (impl_JoinBoards.j0 (k + 1) y0 y1 y2 y3 y4 y5 y6))
  | 0 => fun _ _ _ _ _ _ _ r h => by simp [impl_JoinBoards.j0] at h
  | k + 1 => by
    have ih0 := impl_JoinBoards.mono_l k
    · intro y0 y1 y2 y3 y4 y5 y6
      unfold impl_JoinBoards.j0
      repeat' first | (with_reducible first | apply ih0 | apply impl_Piece_142.mono | apply impl_ValidBoard.mono | apply slices_ContainsFunc__impl_JoinBoards_1.mono | apply slices_ContainsFunc__impl_JoinBoards_2.mono | exact LeO.refl _ | exact LeO.none _ | refine LeO.ite ?_ ?_ | refine LeO.bind ?_ (fun _ => ?_)) | apply ih0 | apply impl_Piece_142.mono | apply impl_ValidBoard.mono | apply slices_ContainsFunc__impl_JoinBoards_1.mono | apply slices_ContainsFunc__impl_JoinBoards_2.mono | exact LeO.none _ | refine LeO.ite ?_ ?_ | refine LeO.bind ?_ (fun _ => ?_)
theorem impl_JoinBoards.mono : ∀ a0 a1 a2 a3 a4 a5 k, LeO (impl_JoinBoards.f k a0 a1 a2 a3 a4 a5) (impl_JoinBoards.f (k + 1) a0 a1 a2 a3 a4 a5) := by
 intro a0 a1 a2 a3 a4 a5 k
 have ih0 := impl_JoinBoards.mono_l k
 unfold impl_JoinBoards.f
 repeat' first | (with_reducible first | apply ih0 | apply impl_Piece_142.mono | apply impl_ValidBoard.mono | apply slices_ContainsFunc__impl_JoinBoards_1.mono | apply slices_ContainsFunc__impl_JoinBoards_2.mono | exact LeO.refl _ | exact LeO.none _ | refine LeO.ite ?_ ?_ | refine LeO.bind ?_ (fun _ => ?_)) | apply ih0 | apply impl_Piece_142.mono | apply impl_ValidBoard.mono | apply slices_ContainsFunc__impl_JoinBoards_1.mono | apply slices_ContainsFunc__impl_JoinBoards_2.mono | exact LeO.none _ | refine LeO.ite ?_ ?_ | refine LeO.bind ?_ (fun _ => ?_)
theorem impl_JoinBoards.calls (k : Nat) (a0_0 : Int) (a0_1 : Int) (P0_2_ : Nat → Prop) (A0_2 : Option Addr) (c0_2 : Nat) (l0_2 : List (S91)) (a1_0 : Int) (a1_1 : Int) (P1_2_ : Nat → Prop) (A1_2 : Option Addr) (c1_2 : Nat) (l1_2 : List (S91)) (r1 : Int) (r2 : Int) (r3 : List (S91)) (r4 : Int) (w : World) (hs0_2 : Kd.V k91 91 w w.heap.size (fun k_ => P0_2_ k_) (.slice A0_2 l0_2.length c0_2) l0_2) (hs1_2 : Kd.V k91 91 w w.heap.size (fun k_ => P1_2_ k_) (.slice A1_2 l1_2.length c1_2) l1_2) (h : impl_JoinBoards.f k a0_0 a0_1 l0_2 a1_0 a1_1 l1_2 = some (r1, r2, r3, r4)) :
    Calls Try.prog 72 #[.agg #[.int .i8 a0_0, .int .i8 a0_1, .slice A0_2 l0_2.length c0_2], .agg #[.int .i8 a1_0, .int .i8 a1_1, .slice A1_2 l1_2.length c1_2]] w fun e w' => ∃ v2_ : Value, e = .returned (.tuple #[.agg #[.int .i8 r1, .int .i8 r2, v2_], .int .i64 r4]) ∧ Kd.R k91 91 w' w.heap.size (fun k_ => (w.heap.size ≤ k_)) v2_ r3 ∧ Below w.heap.size w w' := by
 have hu37 := Try.underlying37
 have HO0_2 := Aside0.mk (show Kd.V k91 91 w w.heap.size (fun k_ => ((P0_2_ k_ ∨ P1_2_ k_) ∨ w.heap.size ≤ k_)) (.slice A0_2 l0_2.length c0_2) l0_2 from Kd.V_mono hs0_2 (fun k_ hk => .inl (.inl hk)))
 have HO1_2 := Aside0.mk (show Kd.V k91 91 w w.heap.size (fun k_ => ((P0_2_ k_ ∨ P1_2_ k_) ∨ w.heap.size ≤ k_)) (.slice A1_2 l1_2.length c1_2) l1_2 from Kd.V_mono hs1_2 (fun k_ hk => .inl (.inr hk)))
 have HB := Aside0.mk (Below.refl w.heap.size w)
 have H : ((impl_ValidBoard.f k a0_0 a0_1 l0_2).bind fun t249 => (if t249 = true then ((impl_ValidBoard.f k a1_0 a1_1 l1_2).bind fun t250 => (impl_JoinBoards.j0 k (!t250) a0_0 a0_1 l0_2 a1_0 a1_1 l1_2)) else (impl_JoinBoards.j0 k true a0_0 a0_1 l0_2 a1_0 a1_1 l1_2))) = some (r1, r2, r3, r4) := h
 clear h
 have HC3 := Aside0.mk H
 clear H
 go_enter Try.func72, Try.ntmps72
 go_upto_region 1 with (first | ((with_reducible refine gate_dst (N := 2) rfl ?_); refine zbx 2 #[.int .i8 a0_0, .int .i8 a0_1, .slice A0_2 l0_2.length c0_2] 37 ?_; intro gb246 hg w4 hbox hb; have n_ : _ ∧ _ ∧ _ ∧ _ ∧ _ ∧ _ := ⟨Aside0.mk (Kd.V_below (Kd.V_elderB (by (with_reducible repeat (first | apply Kd.V_alloc | apply Kd.V_drewN | apply Kd.V_drew)); exact HO0_2.out) gb246 (Nat.le_of_eq hg.symm)) hb), Aside0.mk (Kd.V_below (Kd.V_elderB (by (with_reducible repeat (first | apply Kd.V_alloc | apply Kd.V_drewN | apply Kd.V_drew)); exact HO1_2.out) gb246 (Nat.le_of_eq hg.symm)) hb), zb HB hb, Aside0.mk (hbox), zg HB hg, zg HB hg⟩; clear HO0_2 HO1_2 HB; obtain ⟨HO0_2, HO1_2, HB, BK246, GW246, GE246⟩ := n_; clear hb hbox hg) | ((with_reducible refine gate_dst (N := 3) rfl ?_); refine zbx 3 #[.int .i8 a1_0, .int .i8 a1_1, .slice A1_2 l1_2.length c1_2] 37 ?_; intro gb247 hg w5 hbox hb; have n_ : _ ∧ _ ∧ _ ∧ _ ∧ _ ∧ _ ∧ _ ∧ _ ∧ _ := ⟨Aside0.mk (Kd.V_below (Kd.V_elderB (by (with_reducible repeat (first | apply Kd.V_alloc | apply Kd.V_drewN | apply Kd.V_drew)); exact HO0_2.out) gb247 (Nat.le_of_eq hg.symm)) hb), Aside0.mk (Kd.V_below (Kd.V_elderB (by (with_reducible repeat (first | apply Kd.V_alloc | apply Kd.V_drewN | apply Kd.V_drew)); exact HO1_2.out) gb247 (Nat.le_of_eq hg.symm)) hb), zk BK246 hb, zbs hb, Aside0.mk (hbox), zg HB hg, zg HB hg, zn1 BK246 hg, zn2 BK246 hg⟩; clear HO0_2 HO1_2 BK246 HB; obtain ⟨HO0_2, HO1_2, BK246, HB, BK247, GW247, GE247, NB246_247, NB247_246⟩ := n_; clear hb hbox hg) | ((with_reducible refine gate_dst (N := 4) rfl ?_); refine zbx 4 #[.int .i8 0, .int .i8 0, .slice none 0 0] 37 ?_; intro gb248 hg w6 hbox hb; have n_ : _ ∧ _ ∧ _ ∧ _ ∧ _ ∧ _ ∧ _ ∧ _ ∧ _ ∧ _ ∧ _ ∧ _ := ⟨Aside0.mk (Kd.V_below (Kd.V_elderB (by (with_reducible repeat (first | apply Kd.V_alloc | apply Kd.V_drewN | apply Kd.V_drew)); exact HO0_2.out) gb248 (Nat.le_of_eq hg.symm)) hb), Aside0.mk (Kd.V_below (Kd.V_elderB (by (with_reducible repeat (first | apply Kd.V_alloc | apply Kd.V_drewN | apply Kd.V_drew)); exact HO1_2.out) gb248 (Nat.le_of_eq hg.symm)) hb), zk BK246 hb, zk BK247 hb, zbs hb, Aside0.mk (hbox), zg HB hg, zg HB hg, zn1 BK246 hg, zn2 BK246 hg, zn1 BK247 hg, zn2 BK247 hg⟩; clear HO0_2 HO1_2 BK246 BK247 HB; obtain ⟨HO0_2, HO1_2, BK246, BK247, HB, BK248, GW248, GE248, NB246_248, NB248_246, NB247_248, NB248_247⟩ := n_; clear hb hbox hg))
 (try simp only [Act.put, List.setIfInBounds_toArray, List.set_cons_zero, List.set_cons_succ])
 go_cut [6] (fun v6 wc => ∃ (kq : Nat) (x6_2 : Bool), v6 = .bool x6_2 ∧ Aside0 (impl_JoinBoards.j0 kq x6_2 a0_0 a0_1 l0_2 a1_0 a1_1 l1_2 = some (r1, r2, r3, r4)) ∧ Aside0 (kq ≤ k) ∧ Aside0 (Kd.V k91 91 wc w.heap.size (fun k_ => ((P0_2_ k_ ∨ P1_2_ k_) ∨ w.heap.size ≤ k_) ∧ k_ ≠ gb246 ∧ k_ ≠ gb247 ∧ k_ ≠ gb248) (.slice A0_2 l0_2.length c0_2) l0_2) ∧ Aside0 (Kd.V k91 91 wc w.heap.size (fun k_ => ((P0_2_ k_ ∨ P1_2_ k_) ∨ w.heap.size ≤ k_) ∧ k_ ≠ gb246 ∧ k_ ≠ gb247 ∧ k_ ≠ gb248) (.slice A1_2 l1_2.length c1_2) l1_2) ∧ Aside0 (wc.heap[gb246]? = some (.cells #[.int .i8 a0_0, .int .i8 a0_1, (.slice A0_2 l0_2.length c0_2)] 37 (0, 0))) ∧ Aside0 (wc.heap[gb247]? = some (.cells #[.int .i8 a1_0, .int .i8 a1_1, (.slice A1_2 l1_2.length c1_2)] 37 (0, 0))) ∧ Aside0 (wc.heap[gb248]? = some (.cells #[.int .i8 0, .int .i8 0, (.slice none 0 0)] 37 (0, 0))) ∧ Aside0 (Below w.heap.size w wc))
 case first =>
  have H := HC3.out
  clear HC3
  replace H := zob H
  obtain ⟨t249, A70, H⟩ := H
  replace H : (if t249 = true then ((impl_ValidBoard.f k a1_0 a1_1 l1_2).bind fun t250 => (impl_JoinBoards.j0 k (!t250) a0_0 a0_1 l0_2 a1_0 a1_1 l1_2)) else (impl_JoinBoards.j0 k true a0_0 a0_1 l0_2 a1_0 a1_1 l1_2)) = some (r1, r2, r3, r4) := H
  have A7 := Aside0.mk A70
  clear A70
  by_cases c8 : t249 = true
  rotate_left
  ·replace c8 := Bool.eq_false_iff.mpr c8
   subst c8
   have H1 : (impl_JoinBoards.j0 k true a0_0 a0_1 l0_2 a1_0 a1_1 l1_2) = some (r1, r2, r3, r4) := by rw [if_neg (show ¬ (false = true) by decide)] at H; exact H
   clear H
   have H := H1
   clear H1
   have H' := Aside0.mk H
   clear H
   have hnb17 := NB246_247.out
   have hnc17 := NB247_246.out
   have hnb18 := NB246_248.out
   have hnc18 := NB248_246.out
   obtain ⟨z19_0, z19_1, z19_2, y19_0, y19_1, y19_2⟩ := zB3 BK246
   go_wp2_with (first | ((with_reducible refine gate_callee (f := 43) rfl ?_); refine goesL_ (some 8) rfl rfl Try.func43 (by kernel_rfl) rfl #[.agg #[.int .i8 a0_0, .int .i8 a0_1, .slice A0_2 l0_2.length c0_2]] rfl zm ?_; (with_reducible refine (impl_ValidBoard.calls k a0_0 a0_1 _ _ l0_2 false _ ?side1 ?side2 A7.out).mono ?_); (case side1 => repeat (first | exact (Kd.V_reads' HO0_2.out).2.2 | (with_reducible refine Kd.C_alloc ?_ _) | (with_reducible refine Kd.C_drewN ?_ _) | (with_reducible refine Kd.C_drew ?_))); (case side2 => exact (Kd.V_reads' HO0_2.out).2.1); rintro e w20 ⟨rfl, hb⟩; refine ⟨_, rfl, ?_⟩; have n_ : _ ∧ _ ∧ _ ∧ _ ∧ _ ∧ _ := ⟨Aside0.mk (Kd.V_below (by (with_reducible repeat (first | apply Kd.V_alloc | apply Kd.V_drewN | apply Kd.V_drew)); exact HO0_2.out) hb), Aside0.mk (Kd.V_below (by (with_reducible repeat (first | apply Kd.V_alloc | apply Kd.V_drewN | apply Kd.V_drew)); exact HO1_2.out) hb), zk BK246 hb, zk BK247 hb, zk BK248 hb, zbs hb⟩; clear HO0_2 HO1_2 BK246 BK247 BK248 HB; obtain ⟨HO0_2, HO1_2, BK246, BK247, BK248, HB⟩ := n_; (try clear hb); (try clear hb2); (try clear hk); (try clear hi)))
   go_meet
   case rel => exact ⟨_, (true), zi, H', ⟨by first | omega | exact Nat.le_refl _⟩, ⟨by (with_reducible repeat (first | apply Kd.V_alloc | apply Kd.V_drewN | apply Kd.V_drew)); exact Kd.V_mono HO0_2.out (fun _ hk => ⟨hk.1.1.1, ⟨hk.1.1.2, ⟨hk.1.2, hk.2⟩⟩⟩)⟩, ⟨by (with_reducible repeat (first | apply Kd.V_alloc | apply Kd.V_drewN | apply Kd.V_drew)); exact Kd.V_mono HO1_2.out (fun _ hk => ⟨hk.1.1.1, ⟨hk.1.1.2, ⟨hk.1.2, hk.2⟩⟩⟩)⟩, zh BK246, zh BK247, zh BK248, zba⟩
  subst c8
  have H1 : ((impl_ValidBoard.f k a1_0 a1_1 l1_2).bind fun t250 => (impl_JoinBoards.j0 k (!t250) a0_0 a0_1 l0_2 a1_0 a1_1 l1_2)) = some (r1, r2, r3, r4) := by rw [if_pos rfl] at H; exact H
  clear H
  have H := H1
  clear H1
  replace H := zob H
  obtain ⟨t250, A90, H⟩ := H
  replace H : (impl_JoinBoards.j0 k (!t250) a0_0 a0_1 l0_2 a1_0 a1_1 l1_2) = some (r1, r2, r3, r4) := H
  have A9 := Aside0.mk A90
  clear A90
  have H' := Aside0.mk H
  clear H
  have hnb10 := NB246_247.out
  have hnc10 := NB247_246.out
  have hnb11 := NB246_248.out
  have hnc11 := NB248_246.out
  obtain ⟨z12_0, z12_1, z12_2, y12_0, y12_1, y12_2⟩ := zB3 BK246
  go_wp2_with (first | ((with_reducible refine gate_callee (f := 43) rfl ?_); refine goesL_ (some 8) rfl rfl Try.func43 (by kernel_rfl) rfl #[.agg #[.int .i8 a0_0, .int .i8 a0_1, .slice A0_2 l0_2.length c0_2]] rfl zm ?_; (with_reducible refine (impl_ValidBoard.calls k a0_0 a0_1 _ _ l0_2 true _ ?side1 ?side2 A7.out).mono ?_); (case side1 => repeat (first | exact (Kd.V_reads' HO0_2.out).2.2 | (with_reducible refine Kd.C_alloc ?_ _) | (with_reducible refine Kd.C_drewN ?_ _) | (with_reducible refine Kd.C_drew ?_))); (case side2 => exact (Kd.V_reads' HO0_2.out).2.1); rintro e w13 ⟨rfl, hb⟩; refine ⟨_, rfl, ?_⟩; have n_ : _ ∧ _ ∧ _ ∧ _ ∧ _ ∧ _ := ⟨Aside0.mk (Kd.V_below (by (with_reducible repeat (first | apply Kd.V_alloc | apply Kd.V_drewN | apply Kd.V_drew)); exact HO0_2.out) hb), Aside0.mk (Kd.V_below (by (with_reducible repeat (first | apply Kd.V_alloc | apply Kd.V_drewN | apply Kd.V_drew)); exact HO1_2.out) hb), zk BK246 hb, zk BK247 hb, zk BK248 hb, zbs hb⟩; clear HO0_2 HO1_2 BK246 BK247 BK248 HB; obtain ⟨HO0_2, HO1_2, BK246, BK247, BK248, HB⟩ := n_; (try clear hb); (try clear hb2); (try clear hk); (try clear hi); have hnb14 := NB247_248.out; have hnc14 := NB248_247.out; obtain ⟨z15_0, z15_1, z15_2, y15_0, y15_1, y15_2⟩ := zB3 BK247) | (go_at_call 43; (with_reducible refine (impl_ValidBoard.calls k a1_0 a1_1 _ _ l1_2 t250 _ ?side1 ?side2 A9.out).mono ?_); (case side1 => repeat (first | exact (Kd.V_reads' HO1_2.out).2.2 | (with_reducible refine Kd.C_alloc ?_ _) | (with_reducible refine Kd.C_drewN ?_ _) | (with_reducible refine Kd.C_drew ?_))); (case side2 => exact (Kd.V_reads' HO1_2.out).2.1); rintro e w16 ⟨rfl, hb⟩; have n_ : _ ∧ _ ∧ _ ∧ _ ∧ _ ∧ _ := ⟨Aside0.mk (Kd.V_below (by (with_reducible repeat (first | apply Kd.V_alloc | apply Kd.V_drewN | apply Kd.V_drew)); exact HO0_2.out) hb), Aside0.mk (Kd.V_below (by (with_reducible repeat (first | apply Kd.V_alloc | apply Kd.V_drewN | apply Kd.V_drew)); exact HO1_2.out) hb), zk BK246 hb, zk BK247 hb, zk BK248 hb, zbs hb⟩; clear HO0_2 HO1_2 BK246 BK247 BK248 HB; obtain ⟨HO0_2, HO1_2, BK246, BK247, BK248, HB⟩ := n_; (try clear hb); (try clear hb2); (try clear hk); (try clear hi)))
  go_meet
  case rel => exact ⟨_, (!t250), zi, H', ⟨by first | omega | exact Nat.le_refl _⟩, ⟨by (with_reducible repeat (first | apply Kd.V_alloc | apply Kd.V_drewN | apply Kd.V_drew)); exact Kd.V_mono HO0_2.out (fun _ hk => ⟨hk.1.1.1, ⟨hk.1.1.2, ⟨hk.1.2, hk.2⟩⟩⟩)⟩, ⟨by (with_reducible repeat (first | apply Kd.V_alloc | apply Kd.V_drewN | apply Kd.V_drew)); exact Kd.V_mono HO1_2.out (fun _ hk => ⟨hk.1.1.1, ⟨hk.1.1.2, ⟨hk.1.2, hk.2⟩⟩⟩)⟩, zh BK246, zh BK247, zh BK248, zba⟩
 clear HC3
 try clear c1
 try clear p2
 try clear c4
 try clear c7
 try clear c8
 try clear c10
 try clear c11
 try clear c14
 try clear c17
 try clear c18
 try clear z12_0 z12_1 z12_2
 try clear z15_0 z15_1 z15_2
 try clear z19_0 z19_1 z19_2
 try clear y12_0
 try clear y12_1
 try clear y12_2
 try clear y15_0
 try clear y15_1
 try clear y15_2
 try clear y19_0
 try clear y19_1
 try clear y19_2
 obtain ⟨kq, x6_2, rfl, HA, HJ2, HO_247002, HO_248002, BK246, BK247, BK248, HB⟩ := hcut
 cases kq with
 | zero => exact absurd HA.out (by simp [impl_JoinBoards.j0])
 | succ kj2 => ?_
 have H := HA.out
 clear HA
 simp only [impl_JoinBoards.j0] at H
 by_cases c21 : x6_2 = true
 ·subst c21
  have H1 : (some (0, 0, ([] : List (S91)), 1)) = some (r1, r2, r3, r4) := by rw [if_pos rfl] at H; exact H
  clear H
  have H := H1
  clear H1
  simp only [Option.some.injEq, Prod.mk.injEq] at H
  obtain ⟨rfl, rfl, rfl, rfl⟩ := H
  have hnb22 := NB248_246.out
  have hnc22 := NB246_248.out
  have hnb23 := NB248_247.out
  have hnc23 := NB247_248.out
  obtain ⟨z24_0, z24_1, z24_2, y24_0, y24_1, y24_2⟩ := zB3 BK248
  go_wp2
  refine bodyPost_ret (results_ct rfl _ _ gb248 37 #[.int .i8 0, .int .i8 0, .slice none 0 0] (0, 0) _ rfl (zp BK248) Try.underlying37 rfl (by kernel_rfl)) rfl ?_
  exact ⟨_, zv, by first | exact Kd.R_nil _ _ _ _ _ | exact Kd.N_nil _ _ _ _ _ | exact Kd.V_nil _ _ _ _ _ | exact Kd.Q_nil _ _ _ _ _ | exact Kd.S_nil _ _ _ _ _, zbo⟩
 replace c21 := Bool.eq_false_iff.mpr c21
 subst c21
 have H1 : ((slices_ContainsFunc__impl_JoinBoards_1.f kj2 l1_2 [(⟨a0_0, a0_1, l0_2⟩ : S37)]).bind fun t251 => (if t251 = true then (some (0, 0, ([] : List (S91)), 2)) else ((slices_ContainsFunc__impl_JoinBoards_2.f kj2 l1_2 [(⟨a0_0, a0_1, l0_2⟩ : S37)]).bind fun t252 => (if t252 = true then (some (0, 0, ([] : List (S91)), 4)) else (if (wrap64 ((l0_2.length : Int) + (l1_2.length : Int))) > 200 then (some (0, 0, ([] : List (S91)), 3)) else ((impl_Piece_142.f kj2 (([l0_2, l1_2] : List (List (S91))))).bind fun t256 => ((impl_Board_with.f [(⟨a0_0, a0_1, l0_2⟩ : S37)] t256).bind fun bt259 => (some (bt259.1, bt259.2, t256, 0))))))))) = some (r1, r2, r3, r4) := by rw [if_neg (show ¬ (false = true) by decide)] at H; exact H
 clear H
 have H := H1
 clear H1
 replace H := zob H
 obtain ⟨t251, A250, H⟩ := H
 replace H : (if t251 = true then (some (0, 0, ([] : List (S91)), 2)) else ((slices_ContainsFunc__impl_JoinBoards_2.f kj2 l1_2 [(⟨a0_0, a0_1, l0_2⟩ : S37)]).bind fun t252 => (if t252 = true then (some (0, 0, ([] : List (S91)), 4)) else (if (wrap64 ((l0_2.length : Int) + (l1_2.length : Int))) > 200 then (some (0, 0, ([] : List (S91)), 3)) else ((impl_Piece_142.f kj2 (([l0_2, l1_2] : List (List (S91))))).bind fun t256 => ((impl_Board_with.f [(⟨a0_0, a0_1, l0_2⟩ : S37)] t256).bind fun bt259 => (some (bt259.1, bt259.2, t256, 0)))))))) = some (r1, r2, r3, r4) := H
 have A25 := Aside0.mk A250
 clear A250
 by_cases c26 : t251 = true
 ·subst c26
  have H1 : (some (0, 0, ([] : List (S91)), 2)) = some (r1, r2, r3, r4) := by rw [if_pos rfl] at H; exact H
  clear H
  have H := H1
  clear H1
  simp only [Option.some.injEq, Prod.mk.injEq] at H
  obtain ⟨rfl, rfl, rfl, rfl⟩ := H
  have hnb27 := NB247_246.out
  have hnc27 := NB246_247.out
  have hnb28 := NB247_248.out
  have hnc28 := NB248_247.out
  obtain ⟨z29_0, z29_1, z29_2, y29_0, y29_1, y29_2⟩ := zB3 BK247
  go_wp2_with (first | ((with_reducible refine gate_callee (f := 139) rfl ?_); refine goesL_ (some 20) rfl rfl Try.func139 (by kernel_rfl) rfl #[.slice A1_2 l1_2.length c1_2, .func (.func 140) #[] #[.pointer (some ⟨gb246, 0, none⟩)]] rfl zm ?_; (with_reducible refine (slices_ContainsFunc__impl_JoinBoards_1.calls kj2 _ _ l1_2 _ [(⟨a0_0, a0_1, l0_2⟩ : S37)] true _ ?side1 ?side2 ?side3 A25.out).mono ?_); (case side1 => repeat (first | exact (Kd.V_reads' HO_248002.out).2.2 | (with_reducible refine Kd.C_alloc ?_ _) | (with_reducible refine Kd.C_drewN ?_ _) | (with_reducible refine Kd.C_drew ?_))); (case side2 => exact (Kd.V_reads' HO_248002.out).2.1); (case side3 => refine ro_of_blk (T := 37) (cs := #[.int .i8 a0_0, .int .i8 a0_1, .slice A0_2 l0_2.length c0_2]) (zh BK246).out ?_; exact k37_mk _ (⟨a0_0, a0_1, l0_2⟩ : S37) (by exact (Kd.V_reads' HO_247002.out).2.1) (by repeat (first | exact (Kd.V_reads' HO_247002.out).2.2 | (with_reducible refine Kd.C_alloc ?_ _) | (with_reducible refine Kd.C_drewN ?_ _) | (with_reducible refine Kd.C_drew ?_)))); rintro e w30 ⟨rfl, hb⟩; refine ⟨_, rfl, ?_⟩; have n_ : _ ∧ _ ∧ _ ∧ _ ∧ _ ∧ _ := ⟨Aside0.mk (Kd.V_below (by (with_reducible repeat (first | apply Kd.V_alloc | apply Kd.V_drewN | apply Kd.V_drew)); exact HO_247002.out) hb), Aside0.mk (Kd.V_below (by (with_reducible repeat (first | apply Kd.V_alloc | apply Kd.V_drewN | apply Kd.V_drew)); exact HO_248002.out) hb), zk BK246 hb, zk BK247 hb, zk BK248 hb, zbs hb⟩; clear HO_247002 HO_248002 BK246 BK247 BK248 HB; obtain ⟨HO_247002, HO_248002, BK246, BK247, BK248, HB⟩ := n_; (try clear hb); (try clear hb2); (try clear hk); (try clear hi); have hnb31 := NB248_246.out; have hnc31 := NB246_248.out; obtain ⟨z32_0, z32_1, z32_2, y32_0, y32_1, y32_2⟩ := zB3 BK248))
  refine bodyPost_ret (results_ct rfl _ _ gb248 37 #[.int .i8 0, .int .i8 0, .slice none 0 0] (0, 0) _ rfl (zp BK248) Try.underlying37 rfl (by kernel_rfl)) rfl ?_
  exact ⟨_, zv, by first | exact Kd.R_nil _ _ _ _ _ | exact Kd.N_nil _ _ _ _ _ | exact Kd.V_nil _ _ _ _ _ | exact Kd.Q_nil _ _ _ _ _ | exact Kd.S_nil _ _ _ _ _, zbo⟩
 replace c26 := Bool.eq_false_iff.mpr c26
 subst c26
 have H1 : ((slices_ContainsFunc__impl_JoinBoards_2.f kj2 l1_2 [(⟨a0_0, a0_1, l0_2⟩ : S37)]).bind fun t252 => (if t252 = true then (some (0, 0, ([] : List (S91)), 4)) else (if (wrap64 ((l0_2.length : Int) + (l1_2.length : Int))) > 200 then (some (0, 0, ([] : List (S91)), 3)) else ((impl_Piece_142.f kj2 (([l0_2, l1_2] : List (List (S91))))).bind fun t256 => ((impl_Board_with.f [(⟨a0_0, a0_1, l0_2⟩ : S37)] t256).bind fun bt259 => (some (bt259.1, bt259.2, t256, 0))))))) = some (r1, r2, r3, r4) := by rw [if_neg (show ¬ (false = true) by decide)] at H; exact H
 clear H
 have H := H1
 clear H1
 replace H := zob H
 obtain ⟨t252, A330, H⟩ := H
 replace H : (if t252 = true then (some (0, 0, ([] : List (S91)), 4)) else (if (wrap64 ((l0_2.length : Int) + (l1_2.length : Int))) > 200 then (some (0, 0, ([] : List (S91)), 3)) else ((impl_Piece_142.f kj2 (([l0_2, l1_2] : List (List (S91))))).bind fun t256 => ((impl_Board_with.f [(⟨a0_0, a0_1, l0_2⟩ : S37)] t256).bind fun bt259 => (some (bt259.1, bt259.2, t256, 0)))))) = some (r1, r2, r3, r4) := H
 have A33 := Aside0.mk A330
 clear A330
 by_cases c34 : t252 = true
 ·subst c34
  have H1 : (some (0, 0, ([] : List (S91)), 4)) = some (r1, r2, r3, r4) := by rw [if_pos rfl] at H; exact H
  clear H
  have H := H1
  clear H1
  simp only [Option.some.injEq, Prod.mk.injEq] at H
  obtain ⟨rfl, rfl, rfl, rfl⟩ := H
  have hnb35 := NB247_246.out
  have hnc35 := NB246_247.out
  have hnb36 := NB247_248.out
  have hnc36 := NB248_247.out
  obtain ⟨z37_0, z37_1, z37_2, y37_0, y37_1, y37_2⟩ := zB3 BK247
  go_wp2_with (first | ((with_reducible refine gate_callee (f := 139) rfl ?_); refine goesL_ (some 20) rfl rfl Try.func139 (by kernel_rfl) rfl #[.slice A1_2 l1_2.length c1_2, .func (.func 140) #[] #[.pointer (some ⟨gb246, 0, none⟩)]] rfl zm ?_; (with_reducible refine (slices_ContainsFunc__impl_JoinBoards_1.calls kj2 _ _ l1_2 _ [(⟨a0_0, a0_1, l0_2⟩ : S37)] false _ ?side1 ?side2 ?side3 A25.out).mono ?_); (case side1 => repeat (first | exact (Kd.V_reads' HO_248002.out).2.2 | (with_reducible refine Kd.C_alloc ?_ _) | (with_reducible refine Kd.C_drewN ?_ _) | (with_reducible refine Kd.C_drew ?_))); (case side2 => exact (Kd.V_reads' HO_248002.out).2.1); (case side3 => refine ro_of_blk (T := 37) (cs := #[.int .i8 a0_0, .int .i8 a0_1, .slice A0_2 l0_2.length c0_2]) (zh BK246).out ?_; exact k37_mk _ (⟨a0_0, a0_1, l0_2⟩ : S37) (by exact (Kd.V_reads' HO_247002.out).2.1) (by repeat (first | exact (Kd.V_reads' HO_247002.out).2.2 | (with_reducible refine Kd.C_alloc ?_ _) | (with_reducible refine Kd.C_drewN ?_ _) | (with_reducible refine Kd.C_drew ?_)))); rintro e w38 ⟨rfl, hb⟩; refine ⟨_, rfl, ?_⟩; have n_ : _ ∧ _ ∧ _ ∧ _ ∧ _ ∧ _ := ⟨Aside0.mk (Kd.V_below (by (with_reducible repeat (first | apply Kd.V_alloc | apply Kd.V_drewN | apply Kd.V_drew)); exact HO_247002.out) hb), Aside0.mk (Kd.V_below (by (with_reducible repeat (first | apply Kd.V_alloc | apply Kd.V_drewN | apply Kd.V_drew)); exact HO_248002.out) hb), zk BK246 hb, zk BK247 hb, zk BK248 hb, zbs hb⟩; clear HO_247002 HO_248002 BK246 BK247 BK248 HB; obtain ⟨HO_247002, HO_248002, BK246, BK247, BK248, HB⟩ := n_; (try clear hb); (try clear hb2); (try clear hk); (try clear hi); obtain ⟨z39_0, z39_1, z39_2, y39_0, y39_1, y39_2⟩ := zB3 BK247) | ((with_reducible refine gate_callee (f := 139) rfl ?_); refine goesL_ (some 26) rfl rfl Try.func139 (by kernel_rfl) rfl #[.slice A1_2 l1_2.length c1_2, .func (.func 141) #[] #[.pointer (some ⟨gb246, 0, none⟩)]] rfl zm ?_; (with_reducible refine (slices_ContainsFunc__impl_JoinBoards_2.calls kj2 _ _ l1_2 _ [(⟨a0_0, a0_1, l0_2⟩ : S37)] true _ ?side1 ?side2 ?side3 A33.out).mono ?_); (case side1 => repeat (first | exact (Kd.V_reads' HO_248002.out).2.2 | (with_reducible refine Kd.C_alloc ?_ _) | (with_reducible refine Kd.C_drewN ?_ _) | (with_reducible refine Kd.C_drew ?_))); (case side2 => exact (Kd.V_reads' HO_248002.out).2.1); (case side3 => refine ro_of_blk (T := 37) (cs := #[.int .i8 a0_0, .int .i8 a0_1, .slice A0_2 l0_2.length c0_2]) (zh BK246).out ?_; exact k37_mk _ (⟨a0_0, a0_1, l0_2⟩ : S37) (by exact (Kd.V_reads' HO_247002.out).2.1) (by repeat (first | exact (Kd.V_reads' HO_247002.out).2.2 | (with_reducible refine Kd.C_alloc ?_ _) | (with_reducible refine Kd.C_drewN ?_ _) | (with_reducible refine Kd.C_drew ?_)))); rintro e w40 ⟨rfl, hb⟩; refine ⟨_, rfl, ?_⟩; have n_ : _ ∧ _ ∧ _ ∧ _ ∧ _ ∧ _ := ⟨Aside0.mk (Kd.V_below (by (with_reducible repeat (first | apply Kd.V_alloc | apply Kd.V_drewN | apply Kd.V_drew)); exact HO_247002.out) hb), Aside0.mk (Kd.V_below (by (with_reducible repeat (first | apply Kd.V_alloc | apply Kd.V_drewN | apply Kd.V_drew)); exact HO_248002.out) hb), zk BK246 hb, zk BK247 hb, zk BK248 hb, zbs hb⟩; clear HO_247002 HO_248002 BK246 BK247 BK248 HB; obtain ⟨HO_247002, HO_248002, BK246, BK247, BK248, HB⟩ := n_; (try clear hb); (try clear hb2); (try clear hk); (try clear hi); have hnb41 := NB248_246.out; have hnc41 := NB246_248.out; obtain ⟨z42_0, z42_1, z42_2, y42_0, y42_1, y42_2⟩ := zB3 BK248))
  refine bodyPost_ret (results_ct rfl _ _ gb248 37 #[.int .i8 0, .int .i8 0, .slice none 0 0] (0, 0) _ rfl (zp BK248) Try.underlying37 rfl (by kernel_rfl)) rfl ?_
  exact ⟨_, zv, by first | exact Kd.R_nil _ _ _ _ _ | exact Kd.N_nil _ _ _ _ _ | exact Kd.V_nil _ _ _ _ _ | exact Kd.Q_nil _ _ _ _ _ | exact Kd.S_nil _ _ _ _ _, zbo⟩
 replace c34 := Bool.eq_false_iff.mpr c34
 subst c34
 have H1 : (if (wrap64 ((l0_2.length : Int) + (l1_2.length : Int))) > 200 then (some (0, 0, ([] : List (S91)), 3)) else ((impl_Piece_142.f kj2 (([l0_2, l1_2] : List (List (S91))))).bind fun t256 => ((impl_Board_with.f [(⟨a0_0, a0_1, l0_2⟩ : S37)] t256).bind fun bt259 => (some (bt259.1, bt259.2, t256, 0))))) = some (r1, r2, r3, r4) := by rw [if_neg (show ¬ (false = true) by decide)] at H; exact H
 clear H
 have H := H1
 clear H1
 by_cases c43 : (wrap64 ((l0_2.length : Int) + (l1_2.length : Int))) > 200
 ·rw [if_pos c43] at H
  have c43b0 : decide (200 < (wrap64 ((l0_2.length : Int) + (l1_2.length : Int)))) = true := decide_eq_true c43
  clear c43
  simp only [Option.some.injEq, Prod.mk.injEq] at H
  obtain ⟨rfl, rfl, rfl, rfl⟩ := H
  have hnb44 := NB247_246.out
  have hnc44 := NB246_247.out
  have hnb45 := NB247_248.out
  have hnc45 := NB248_247.out
  obtain ⟨z46_0, z46_1, z46_2, y46_0, y46_1, y46_2⟩ := zB3 BK247
  go_wp2_with (first | ((with_reducible refine gate_callee (f := 139) rfl ?_); refine goesL_ (some 20) rfl rfl Try.func139 (by kernel_rfl) rfl #[.slice A1_2 l1_2.length c1_2, .func (.func 140) #[] #[.pointer (some ⟨gb246, 0, none⟩)]] rfl zm ?_; (with_reducible refine (slices_ContainsFunc__impl_JoinBoards_1.calls kj2 _ _ l1_2 _ [(⟨a0_0, a0_1, l0_2⟩ : S37)] false _ ?side1 ?side2 ?side3 A25.out).mono ?_); (case side1 => repeat (first | exact (Kd.V_reads' HO_248002.out).2.2 | (with_reducible refine Kd.C_alloc ?_ _) | (with_reducible refine Kd.C_drewN ?_ _) | (with_reducible refine Kd.C_drew ?_))); (case side2 => exact (Kd.V_reads' HO_248002.out).2.1); (case side3 => refine ro_of_blk (T := 37) (cs := #[.int .i8 a0_0, .int .i8 a0_1, .slice A0_2 l0_2.length c0_2]) (zh BK246).out ?_; exact k37_mk _ (⟨a0_0, a0_1, l0_2⟩ : S37) (by exact (Kd.V_reads' HO_247002.out).2.1) (by repeat (first | exact (Kd.V_reads' HO_247002.out).2.2 | (with_reducible refine Kd.C_alloc ?_ _) | (with_reducible refine Kd.C_drewN ?_ _) | (with_reducible refine Kd.C_drew ?_)))); rintro e w47 ⟨rfl, hb⟩; refine ⟨_, rfl, ?_⟩; have n_ : _ ∧ _ ∧ _ ∧ _ ∧ _ ∧ _ := ⟨Aside0.mk (Kd.V_below (by (with_reducible repeat (first | apply Kd.V_alloc | apply Kd.V_drewN | apply Kd.V_drew)); exact HO_247002.out) hb), Aside0.mk (Kd.V_below (by (with_reducible repeat (first | apply Kd.V_alloc | apply Kd.V_drewN | apply Kd.V_drew)); exact HO_248002.out) hb), zk BK246 hb, zk BK247 hb, zk BK248 hb, zbs hb⟩; clear HO_247002 HO_248002 BK246 BK247 BK248 HB; obtain ⟨HO_247002, HO_248002, BK246, BK247, BK248, HB⟩ := n_; (try clear hb); (try clear hb2); (try clear hk); (try clear hi); obtain ⟨z48_0, z48_1, z48_2, y48_0, y48_1, y48_2⟩ := zB3 BK247) | ((with_reducible refine gate_callee (f := 139) rfl ?_); refine goesL_ (some 26) rfl rfl Try.func139 (by kernel_rfl) rfl #[.slice A1_2 l1_2.length c1_2, .func (.func 141) #[] #[.pointer (some ⟨gb246, 0, none⟩)]] rfl zm ?_; (with_reducible refine (slices_ContainsFunc__impl_JoinBoards_2.calls kj2 _ _ l1_2 _ [(⟨a0_0, a0_1, l0_2⟩ : S37)] false _ ?side1 ?side2 ?side3 A33.out).mono ?_); (case side1 => repeat (first | exact (Kd.V_reads' HO_248002.out).2.2 | (with_reducible refine Kd.C_alloc ?_ _) | (with_reducible refine Kd.C_drewN ?_ _) | (with_reducible refine Kd.C_drew ?_))); (case side2 => exact (Kd.V_reads' HO_248002.out).2.1); (case side3 => refine ro_of_blk (T := 37) (cs := #[.int .i8 a0_0, .int .i8 a0_1, .slice A0_2 l0_2.length c0_2]) (zh BK246).out ?_; exact k37_mk _ (⟨a0_0, a0_1, l0_2⟩ : S37) (by exact (Kd.V_reads' HO_247002.out).2.1) (by repeat (first | exact (Kd.V_reads' HO_247002.out).2.2 | (with_reducible refine Kd.C_alloc ?_ _) | (with_reducible refine Kd.C_drewN ?_ _) | (with_reducible refine Kd.C_drew ?_)))); rintro e w49 ⟨rfl, hb⟩; refine ⟨_, rfl, ?_⟩; have n_ : _ ∧ _ ∧ _ ∧ _ ∧ _ ∧ _ := ⟨Aside0.mk (Kd.V_below (by (with_reducible repeat (first | apply Kd.V_alloc | apply Kd.V_drewN | apply Kd.V_drew)); exact HO_247002.out) hb), Aside0.mk (Kd.V_below (by (with_reducible repeat (first | apply Kd.V_alloc | apply Kd.V_drewN | apply Kd.V_drew)); exact HO_248002.out) hb), zk BK246 hb, zk BK247 hb, zk BK248 hb, zbs hb⟩; clear HO_247002 HO_248002 BK246 BK247 BK248 HB; obtain ⟨HO_247002, HO_248002, BK246, BK247, BK248, HB⟩ := n_; (try clear hb); (try clear hb2); (try clear hk); (try clear hi); have hnb50 := NB246_248.out; have hnc50 := NB248_246.out; obtain ⟨z51_0, z51_1, z51_2, y51_0, y51_1, y51_2⟩ := zB3 BK246; obtain ⟨z52_0, z52_1, z52_2, y52_0, y52_1, y52_2⟩ := zB3 BK247; obtain ⟨z53_0, z53_1, z53_2, y53_0, y53_1, y53_2⟩ := zB3 BK248))
  refine bodyPost_ret (results_ct rfl _ _ gb248 37 #[.int .i8 0, .int .i8 0, .slice none 0 0] (0, 0) _ rfl (zp BK248) Try.underlying37 rfl (by kernel_rfl)) rfl ?_
  exact ⟨_, zv, by first | exact Kd.R_nil _ _ _ _ _ | exact Kd.N_nil _ _ _ _ _ | exact Kd.V_nil _ _ _ _ _ | exact Kd.Q_nil _ _ _ _ _ | exact Kd.S_nil _ _ _ _ _, zbo⟩
 rw [if_neg c43] at H
 have c43b0 : decide (200 < (wrap64 ((l0_2.length : Int) + (l1_2.length : Int)))) = false := decide_eq_false c43
 clear c43
 obtain ⟨y253, hy253⟩ : ∃ y_ : List (List (S91)), y_ = (([l0_2, l1_2] : List (List (S91)))) := ⟨_, rfl⟩
 replace H : ((impl_Piece_142.f kj2 y253).bind fun t256 => ((impl_Board_with.f [(⟨a0_0, a0_1, l0_2⟩ : S37)] t256).bind fun bt259 => (some (bt259.1, bt259.2, t256, 0)))) = some (r1, r2, r3, r4) := by first | (rw [hy253]; with_reducible exact H) | (have H2_ := (Option.bind_some _ _).symm.trans H; rw [hy253]; with_reducible exact H2_) | (have H2_ := (Option.bind_some _ _).symm.trans H; with_reducible exact H2_) | with_reducible exact H | (rw [hy253]; exact H) | exact H
 have Ny253 := Aside0.mk hy253
 clear hy253
 replace H := zob H
 obtain ⟨t256, A540, H⟩ := H
 replace H : ((impl_Board_with.f [(⟨a0_0, a0_1, l0_2⟩ : S37)] t256).bind fun bt259 => (some (bt259.1, bt259.2, t256, 0))) = some (r1, r2, r3, r4) := H
 have A54 := Aside0.mk A540
 clear A540
 replace H := zob H
 obtain ⟨⟨t259, t260⟩, A550, H⟩ := H
 replace H : (some (t259, t260, t256, 0)) = some (r1, r2, r3, r4) := H
 have A55 := Aside0.mk A550
 clear A550
 simp only [Option.some.injEq, Prod.mk.injEq] at H
 obtain ⟨rfl, rfl, rfl, rfl⟩ := H
 have hnb56 := NB247_246.out
 have hnc56 := NB246_247.out
 have hnb57 := NB247_248.out
 have hnc57 := NB248_247.out
 obtain ⟨z58_0, z58_1, z58_2, y58_0, y58_1, y58_2⟩ := zB3 BK247
 go_wp2_with (first | ((with_reducible refine gate_callee (f := 139) rfl ?_); refine goesL_ (some 20) rfl rfl Try.func139 (by kernel_rfl) rfl #[.slice A1_2 l1_2.length c1_2, .func (.func 140) #[] #[.pointer (some ⟨gb246, 0, none⟩)]] rfl zm ?_; (with_reducible refine (slices_ContainsFunc__impl_JoinBoards_1.calls kj2 _ _ l1_2 _ [(⟨a0_0, a0_1, l0_2⟩ : S37)] false _ ?side1 ?side2 ?side3 A25.out).mono ?_); (case side1 => repeat (first | exact (Kd.V_reads' HO_248002.out).2.2 | (with_reducible refine Kd.C_alloc ?_ _) | (with_reducible refine Kd.C_drewN ?_ _) | (with_reducible refine Kd.C_drew ?_))); (case side2 => exact (Kd.V_reads' HO_248002.out).2.1); (case side3 => refine ro_of_blk (T := 37) (cs := #[.int .i8 a0_0, .int .i8 a0_1, .slice A0_2 l0_2.length c0_2]) (zh BK246).out ?_; exact k37_mk _ (⟨a0_0, a0_1, l0_2⟩ : S37) (by exact (Kd.V_reads' HO_247002.out).2.1) (by repeat (first | exact (Kd.V_reads' HO_247002.out).2.2 | (with_reducible refine Kd.C_alloc ?_ _) | (with_reducible refine Kd.C_drewN ?_ _) | (with_reducible refine Kd.C_drew ?_)))); rintro e w59 ⟨rfl, hb⟩; refine ⟨_, rfl, ?_⟩; have n_ : _ ∧ _ ∧ _ ∧ _ ∧ _ ∧ _ := ⟨Aside0.mk (Kd.V_below (by (with_reducible repeat (first | apply Kd.V_alloc | apply Kd.V_drewN | apply Kd.V_drew)); exact HO_247002.out) hb), Aside0.mk (Kd.V_below (by (with_reducible repeat (first | apply Kd.V_alloc | apply Kd.V_drewN | apply Kd.V_drew)); exact HO_248002.out) hb), zk BK246 hb, zk BK247 hb, zk BK248 hb, zbs hb⟩; clear HO_247002 HO_248002 BK246 BK247 BK248 HB; obtain ⟨HO_247002, HO_248002, BK246, BK247, BK248, HB⟩ := n_; (try clear hb); (try clear hb2); (try clear hk); (try clear hi); obtain ⟨z60_0, z60_1, z60_2, y60_0, y60_1, y60_2⟩ := zB3 BK247) | ((with_reducible refine gate_callee (f := 139) rfl ?_); refine goesL_ (some 26) rfl rfl Try.func139 (by kernel_rfl) rfl #[.slice A1_2 l1_2.length c1_2, .func (.func 141) #[] #[.pointer (some ⟨gb246, 0, none⟩)]] rfl zm ?_; (with_reducible refine (slices_ContainsFunc__impl_JoinBoards_2.calls kj2 _ _ l1_2 _ [(⟨a0_0, a0_1, l0_2⟩ : S37)] false _ ?side1 ?side2 ?side3 A33.out).mono ?_); (case side1 => repeat (first | exact (Kd.V_reads' HO_248002.out).2.2 | (with_reducible refine Kd.C_alloc ?_ _) | (with_reducible refine Kd.C_drewN ?_ _) | (with_reducible refine Kd.C_drew ?_))); (case side2 => exact (Kd.V_reads' HO_248002.out).2.1); (case side3 => refine ro_of_blk (T := 37) (cs := #[.int .i8 a0_0, .int .i8 a0_1, .slice A0_2 l0_2.length c0_2]) (zh BK246).out ?_; exact k37_mk _ (⟨a0_0, a0_1, l0_2⟩ : S37) (by exact (Kd.V_reads' HO_247002.out).2.1) (by repeat (first | exact (Kd.V_reads' HO_247002.out).2.2 | (with_reducible refine Kd.C_alloc ?_ _) | (with_reducible refine Kd.C_drewN ?_ _) | (with_reducible refine Kd.C_drew ?_)))); rintro e w61 ⟨rfl, hb⟩; refine ⟨_, rfl, ?_⟩; have n_ : _ ∧ _ ∧ _ ∧ _ ∧ _ ∧ _ := ⟨Aside0.mk (Kd.V_below (by (with_reducible repeat (first | apply Kd.V_alloc | apply Kd.V_drewN | apply Kd.V_drew)); exact HO_247002.out) hb), Aside0.mk (Kd.V_below (by (with_reducible repeat (first | apply Kd.V_alloc | apply Kd.V_drewN | apply Kd.V_drew)); exact HO_248002.out) hb), zk BK246 hb, zk BK247 hb, zk BK248 hb, zbs hb⟩; clear HO_247002 HO_248002 BK246 BK247 BK248 HB; obtain ⟨HO_247002, HO_248002, BK246, BK247, BK248, HB⟩ := n_; (try clear hb); (try clear hb2); (try clear hk); (try clear hi); have hnb62 := NB246_248.out; have hnc62 := NB248_246.out; obtain ⟨z63_0, z63_1, z63_2, y63_0, y63_1, y63_2⟩ := zB3 BK246; obtain ⟨z64_0, z64_1, z64_2, y64_0, y64_1, y64_2⟩ := zB3 BK247) | ((with_reducible refine gate_dst (N := 42) rfl ?_); refine Kd.N_lit (Kd.slice 91 k91) _ 35 ?hg (N' := 42) ?hd (xs := ([l0_2, l1_2] : List (List (S91)))) (inner := [.slice A0_2 l0_2.length c0_2, .slice A1_2 l1_2.length c1_2]) (ok := (fun k_ => ((P0_2_ k_ ∨ P1_2_ k_) ∨ w.heap.size ≤ k_) ∧ k_ ≠ gb246 ∧ k_ ≠ gb247 ∧ k_ ≠ gb248)) (okp := (fun k_ => ((P0_2_ k_ ∨ P1_2_ k_) ∨ w.heap.size ≤ k_) ∧ k_ ≠ gb246 ∧ k_ ≠ gb247 ∧ k_ ≠ gb248)) ?hr ?hp (fun _ hk => hk) ((show ∀ k_, w61.heap.size ≤ k_ → (fun k_ => ((P0_2_ k_ ∨ P1_2_ k_) ∨ w.heap.size ≤ k_) ∧ k_ ≠ gb246 ∧ k_ ≠ gb247 ∧ k_ ≠ gb248) k_ from fun k_ hk => ⟨(.inr (Nat.le_trans (zz HB) hk)), Kd.freshB (g := gb246) (o := .cells #[.int .i8 a0_0, .int .i8 a0_1, .slice A0_2 l0_2.length c0_2] 37 (0, 0)) (zh BK246).out k_ hk, Kd.freshB (g := gb247) (o := .cells #[.int .i8 a1_0, .int .i8 a1_1, .slice A1_2 l1_2.length c1_2] 37 (0, 0)) (zh BK247).out k_ hk, Kd.freshB (g := gb248) (o := .cells #[.int .i8 0, .int .i8 0, .slice none 0 0] 37 (0, 0)) (zh BK248).out k_ hk⟩) _ (Nat.le_refl _)) (Below.refl _ _) (Nat.le_refl _) (by simp) ?_; (case hd => rfl); (case hg => rfl); (case hr => exact zgs); (case hp => exact (Reps.one (show Kd.FK (Kd.slice 91 k91) _ _ l0_2 [.slice A0_2 l0_2.length c0_2] from (Kd.FK_slice_mk (Kd.V_reads' (Kd.V_mono (ok' := (fun k_ => ((P0_2_ k_ ∨ P1_2_ k_) ∨ w.heap.size ≤ k_) ∧ k_ ≠ gb246 ∧ k_ ≠ gb247 ∧ k_ ≠ gb248)) (HO_247002.out) (fun k_ hk => ⟨hk.1, ⟨hk.2.1, ⟨hk.2.2.1, hk.2.2.2⟩⟩⟩))).2.1 (Kd.V_F (Kd.V_mono (ok' := (fun k_ => ((P0_2_ k_ ∨ P1_2_ k_) ∨ w.heap.size ≤ k_) ∧ k_ ≠ gb246 ∧ k_ ≠ gb247 ∧ k_ ≠ gb248)) (HO_247002.out) (fun k_ hk => ⟨hk.1, ⟨hk.2.1, ⟨hk.2.2.1, hk.2.2.2⟩⟩⟩))))) (Reps.one (show Kd.FK (Kd.slice 91 k91) _ _ l1_2 [.slice A1_2 l1_2.length c1_2] from (Kd.FK_slice_mk (Kd.V_reads' (Kd.V_mono (ok' := (fun k_ => ((P0_2_ k_ ∨ P1_2_ k_) ∨ w.heap.size ≤ k_) ∧ k_ ≠ gb246 ∧ k_ ≠ gb247 ∧ k_ ≠ gb248)) (HO_248002.out) (fun k_ hk => ⟨hk.1, ⟨hk.2.1, ⟨hk.2.2.1, hk.2.2.2⟩⟩⟩))).2.1 (Kd.V_F (Kd.V_mono (ok' := (fun k_ => ((P0_2_ k_ ∨ P1_2_ k_) ∨ w.heap.size ≤ k_) ∧ k_ ≠ gb246 ∧ k_ ≠ gb247 ∧ k_ ≠ gb248)) (HO_248002.out) (fun k_ hk => ⟨hk.1, ⟨hk.2.1, ⟨hk.2.2.1, hk.2.2.2⟩⟩⟩))))) (Reps.none _ _)))); intro v254 w65 ho66 hb hg_ hnew_; clear hg_ hnew_; (first | rw [← Ny253.out] at ho66 | (simp only [Int.reduceToNat] at ho66; rw [← Ny253.out] at ho66)); have n_ : _ ∧ _ ∧ _ ∧ _ ∧ _ ∧ _ ∧ _ := ⟨Aside0.mk (Kd.V_elder' (by (with_reducible repeat (first | apply Kd.V_alloc | apply Kd.V_drewN | apply Kd.V_drew)); exact HO_247002.out) (Kd.N_base ho66) hb), Aside0.mk (Kd.V_elder' (by (with_reducible repeat (first | apply Kd.V_alloc | apply Kd.V_drewN | apply Kd.V_drew)); exact HO_248002.out) (Kd.N_base ho66) hb), Aside0.mk (Kd.N_lower ho66 (zz HB)), zk BK246 hb, zk BK247 hb, zk BK248 hb, zbs hb⟩; clear HO_247002 HO_248002 BK246 BK247 BK248 HB; obtain ⟨HO_247002, HO_248002, HO255, BK246, BK247, BK248, HB⟩ := n_; clear hb ho66; obtain ⟨Ao67, co67, eo67⟩ := Kd.N_slice HO255.out; subst eo67) | ((with_reducible refine gate_callee (f := 142) rfl ?_); refine goesL_ (some 43) rfl rfl Try.func142 (by kernel_rfl) rfl #[.slice Ao67 y253.length co67] rfl zm ?_; (with_reducible refine (impl_Piece_142.calls kj2 _ _ y253 t256 _ ?side1 ?side2 A54.out).mono ?_); (case side1 => repeat (first | exact (Kd.N_reads' HO255.out).2.2 | (with_reducible refine Kd.C_alloc ?_ _) | (with_reducible refine Kd.C_drewN ?_ _) | (with_reducible refine Kd.C_drew ?_))); (case side2 => exact (Kd.N_reads' HO255.out).2.1); rintro e w68 ⟨v257, rfl, ho0, hb⟩; refine ⟨_, rfl, ?_⟩; have n_ : _ ∧ _ ∧ _ ∧ _ ∧ _ ∧ _ ∧ _ ∧ _ := ⟨Aside0.mk (Kd.V_elder' (by (with_reducible repeat (first | apply Kd.V_alloc | apply Kd.V_drewN | apply Kd.V_drew)); exact HO_247002.out) (Kd.R_base ho0) hb), Aside0.mk (Kd.V_elder' (by (with_reducible repeat (first | apply Kd.V_alloc | apply Kd.V_drewN | apply Kd.V_drew)); exact HO_248002.out) (Kd.R_base ho0) hb), Aside0.mk (Kd.N_elder' (by (with_reducible repeat (first | apply Kd.N_alloc | apply Kd.N_drewN | apply Kd.N_drew)); exact HO255.out) (Kd.R_base ho0) hb), Aside0.mk (Kd.R_lower (Kd.R_newM (M := fun k_ => (w.heap.size ≤ k_)) ho0 (zz HB) (fun k_ h_ => h_)) (zz HB)), zk BK246 hb, zk BK247 hb, zk BK248 hb, zbs hb⟩; clear HO_247002 HO_248002 HO255 BK246 BK247 BK248 HB; obtain ⟨HO_247002, HO_248002, HO255, HO258, BK246, BK247, BK248, HB⟩ := n_; (try clear hb); (try clear hb2); (try clear hk); (try clear hi); (try clear ho0); obtain ⟨Ao69, co69, eo69⟩ := Kd.R_slice HO258.out; subst eo69) | ((with_reducible refine gate_callee (f := 112) rfl ?_); refine goesL_ (some 44) rfl rfl Try.func112 (by kernel_rfl) rfl #[.pointer (some ⟨gb246, 0, none⟩), .slice Ao69 t256.length co69] rfl zm ?_; (with_reducible refine (impl_Board_with.calls _ [(⟨a0_0, a0_1, l0_2⟩ : S37)] _ _ t256 t259 t260 _ ?side1 ?side2 ?side3 A55.out).mono ?_); (case side1 => refine ro_of_blk (T := 37) (cs := #[.int .i8 a0_0, .int .i8 a0_1, .slice A0_2 l0_2.length c0_2]) (zh BK246).out ?_; exact k37_mk _ (⟨a0_0, a0_1, l0_2⟩ : S37) (by exact (Kd.V_reads' HO_247002.out).2.1) (by repeat (first | exact (Kd.V_reads' HO_247002.out).2.2 | (with_reducible refine Kd.C_alloc ?_ _) | (with_reducible refine Kd.C_drewN ?_ _) | (with_reducible refine Kd.C_drew ?_)))); (case side2 => exact zrc HO258); (case side3 => exact (Kd.R_reads' HO258.out).2.1); rintro e w70 ⟨rfl, hb⟩; refine ⟨_, rfl, ?_⟩; have n_ : _ ∧ _ ∧ _ ∧ _ ∧ _ ∧ _ ∧ _ ∧ _ := ⟨Aside0.mk (Kd.V_below (by (with_reducible repeat (first | apply Kd.V_alloc | apply Kd.V_drewN | apply Kd.V_drew)); exact HO_247002.out) hb), Aside0.mk (Kd.V_below (by (with_reducible repeat (first | apply Kd.V_alloc | apply Kd.V_drewN | apply Kd.V_drew)); exact HO_248002.out) hb), Aside0.mk (Kd.N_below (by (with_reducible repeat (first | apply Kd.N_alloc | apply Kd.N_drewN | apply Kd.N_drew)); exact HO255.out) hb), zr HO258 hb, zk BK246 hb, zk BK247 hb, zk BK248 hb, zbs hb⟩; clear HO_247002 HO_248002 HO255 HO258 BK246 BK247 BK248 HB; obtain ⟨HO_247002, HO_248002, HO255, HO258, BK246, BK247, BK248, HB⟩ := n_; (try clear hb); (try clear hb2); (try clear hk); (try clear hi); obtain ⟨z71_0, z71_1, z71_2, y71_0, y71_1, y71_2⟩ := zB3 BK248))
 refine bodyPost_ret (results_ct rfl _ _ gb248 37 #[.int .i8 t259, .int .i8 t260, .slice Ao69 t256.length co69] (0, 0) _ rfl (zp BK248) Try.underlying37 rfl (by kernel_rfl)) rfl ?_
 exact ⟨_, zv, by (with_reducible repeat (first | apply Kd.R_alloc | apply Kd.R_drewN | apply Kd.R_drew)); exact Kd.R_mono (Kd.R_far (p := ⟨gb248, 2, none⟩) (Kd.R_far (p := ⟨gb248, 1, none⟩) (Kd.R_far (p := ⟨gb248, 0, none⟩) (Kd.R_types HO258.out BK248.out (by decide)) (fun _ hk => hk.2) (.int .i8 t259)) (fun _ hk => hk.2) (.int .i8 t260)) (fun _ hk => hk.2) (.slice Ao69 t256.length co69)) (fun _ hk => hk.1.1), zbo⟩
end Go.Proofs.Ytffnfpnajkgnaaa.PFnExactJoinBoards
