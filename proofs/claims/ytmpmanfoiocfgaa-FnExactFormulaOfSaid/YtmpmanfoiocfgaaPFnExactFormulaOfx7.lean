-- WRITTEN by xprint.py, a program of this session's. Not trusted: Lean checks it.
-- packed by pack.py
import Derived.Test.YtmpmanfoiocfgaaPFnExactFormulaOfx0
import Derived.Test.YtmpmanfoiocfgaaPFnExactFormulaOfx5
import Derived.Test.YtmpmanfoiocfgaaPFnExactFormulaOfx6
import Derived.Test.YtmpmanfoiocfgaaTFnExactFormulaOfa
namespace Go.Proofs.Ytmpmanfoiocfgaa.PFnExactFormulaOf
open Go.RowKit Go.Proofs.YtmpmanfoiocfgaaW.PrintWords Go.Proofs.YtmpmanfoiocfgaaW.PrintLast Go.Proofs.YtmpmanfoiocfgaaW.PrintMore Go.Proofs.YtmpmanfoiocfgaaX
attribute [local go_sem] max2_int min2_int max_two min_two max_three min_three max_four min_four   -- for this text's walks alone
set_option maxHeartbeats 8000000
set_option maxRecDepth 100000
set_option linter.unusedVariables false
set_option linter.unusedSimpArgs false

theorem zblk {P : Program} {id : Nat} {c : Code} {K0 : Act → World → Prop} {Q : Exit → Act → World → Prop} {a : Act} {w : World} (h : ∀ K : Act → World → Prop, (∀ a w, K0 a w → K a w) → c.wp P (Exit.then K (Exit.inBlock id (Exit.then K0 Q))) a w) : (Code.block id c).wp P (Exit.then K0 Q) a w :=
  wp_block (wp_mono (h K0 fun _ _ h => h) (by intro e a' w' hq; cases e <;> exact hq))
mutual
def impl_FormulaOf.l0 : Nat → Int → List ByteArray → List (S81) → Int → Int → Int → List (S81) → List Int → Option (ByteArray × Int)
  | 0, _, _, _, _, _, _, _, _ => none
  | k + 1, x1, x6, x25, x26, x27, x212000, x212001, x212002 => if x27 < x26 then (if 0 ≤ x27 then (if x27 < (x25.length : Int) then (if ((rd_T81 x25 x27).f0) = 0 then (if 0 ≤ ((rd_T81 x25 x27).f1) then (if ((rd_T81 x25 x27).f1) ≤ (IntKind.i16.wrap (((rd_T81 x25 x27).f1) + 1)) then (if (IntKind.i16.wrap (((rd_T81 x25 x27).f1) + 1)) ≤ 6 then (impl_FormulaOf.j3 k x1 x6 ((⟨#[97, 98, 99, 100, 101, 102]⟩ : ByteArray).extract (((rd_T81 x25 x27).f1) : Int).toNat ((IntKind.i16.wrap (((rd_T81 x25 x27).f1) + 1)) : Int).toNat) x25 x26 x27 x212000 x212001 x212002) else (none)) else (none)) else (none)) else (if ((rd_T81 x25 x27).f0) = 2 then (if 0 ≤ ((rd_T81 x25 x27).f1) then (if ((rd_T81 x25 x27).f1) < (x6.length : Int) then (if 1 + (rdOf ByteArray.empty x6 ((rd_T81 x25 x27).f1)).size ≤ 9223372036854775807 then (if 1 + (rdOf ByteArray.empty x6 ((rd_T81 x25 x27).f1)).size + 1 ≤ 9223372036854775807 then (if 0 ≤ ((rd_T81 x25 x27).f2) then (if ((rd_T81 x25 x27).f2) < (x6.length : Int) then (if 1 + (rdOf ByteArray.empty x6 ((rd_T81 x25 x27).f1)).size + 1 + (rdOf ByteArray.empty x6 ((rd_T81 x25 x27).f2)).size ≤ 9223372036854775807 then (if 1 + (rdOf ByteArray.empty x6 ((rd_T81 x25 x27).f1)).size + 1 + (rdOf ByteArray.empty x6 ((rd_T81 x25 x27).f2)).size + 1 ≤ 9223372036854775807 then (impl_FormulaOf.j2 k x1 x6 (((((⟨#[40]⟩ : ByteArray) ++ (rdOf ByteArray.empty x6 ((rd_T81 x25 x27).f1))) ++ (⟨#[124]⟩ : ByteArray)) ++ (rdOf ByteArray.empty x6 ((rd_T81 x25 x27).f2))) ++ (⟨#[41]⟩ : ByteArray)) x25 x26 x27 x212000 x212001 x212002) else (none)) else (none)) else (none)) else (none)) else (none)) else (none)) else (none)) else (none)) else (if ((rd_T81 x25 x27).f0) = 3 then (if 0 ≤ ((rd_T81 x25 x27).f1) then (if ((rd_T81 x25 x27).f1) < (x6.length : Int) then (if 1 + (rdOf ByteArray.empty x6 ((rd_T81 x25 x27).f1)).size ≤ 9223372036854775807 then (if 1 + (rdOf ByteArray.empty x6 ((rd_T81 x25 x27).f1)).size + 1 ≤ 9223372036854775807 then (if 0 ≤ ((rd_T81 x25 x27).f2) then (if ((rd_T81 x25 x27).f2) < (x6.length : Int) then (if 1 + (rdOf ByteArray.empty x6 ((rd_T81 x25 x27).f1)).size + 1 + (rdOf ByteArray.empty x6 ((rd_T81 x25 x27).f2)).size ≤ 9223372036854775807 then (if 1 + (rdOf ByteArray.empty x6 ((rd_T81 x25 x27).f1)).size + 1 + (rdOf ByteArray.empty x6 ((rd_T81 x25 x27).f2)).size + 1 ≤ 9223372036854775807 then (impl_FormulaOf.j1 k x1 x6 (((((⟨#[40]⟩ : ByteArray) ++ (rdOf ByteArray.empty x6 ((rd_T81 x25 x27).f1))) ++ (⟨#[45]⟩ : ByteArray)) ++ (rdOf ByteArray.empty x6 ((rd_T81 x25 x27).f2))) ++ (⟨#[41]⟩ : ByteArray)) x25 x26 x27 x212000 x212001 x212002) else (none)) else (none)) else (none)) else (none)) else (none)) else (none)) else (none)) else (none)) else (impl_FormulaOf.j1 k x1 x6 (⟨#[49]⟩ : ByteArray) x25 x26 x27 x212000 x212001 x212002)))) else (none)) else (none)) else (if 0 ≤ x1 then (if x1 < (x212002.length : Int) then (if 0 ≤ (rd x212002 x1) then (if (rd x212002 x1) < (x6.length : Int) then (if ((rdOf ByteArray.empty x6 (rd x212002 x1)).size : Int) > 200 then (some ((⟨#[]⟩ : ByteArray), 3)) else (some (rdOf ByteArray.empty x6 (rd x212002 x1), 0))) else (none)) else (none)) else (none)) else (none))
def impl_FormulaOf.j3 : Nat → Int → List ByteArray → ByteArray → List (S81) → Int → Int → Int → List (S81) → List Int → Option (ByteArray × Int)
  | 0, _, _, _, _, _, _, _, _, _ => none
  | k + 1, x1, x6, x9, x25, x26, x27, x212000, x212001, x212002 => if 0 ≤ (mn (x9.size : Int) 201) then (if (mn (x9.size : Int) 201) ≤ (x9.size : Int) then (if x6.length < 8796093022208 then (impl_FormulaOf.l0 k x1 (x6 ++ [x9.extract 0 ((mn (x9.size : Int) 201) : Int).toNat]) x25 x26 (wrap64 (x27 + 1)) x212000 x212001 x212002) else (none)) else (none)) else (none)
def impl_FormulaOf.j2 : Nat → Int → List ByteArray → ByteArray → List (S81) → Int → Int → Int → List (S81) → List Int → Option (ByteArray × Int)
  | 0, _, _, _, _, _, _, _, _, _ => none
  | k + 1, x1, x6, x9, x25, x26, x27, x212000, x212001, x212002 => impl_FormulaOf.j3 k x1 x6 x9 x25 x26 x27 x212000 x212001 x212002
def impl_FormulaOf.j1 : Nat → Int → List ByteArray → ByteArray → List (S81) → Int → Int → Int → List (S81) → List Int → Option (ByteArray × Int)
  | 0, _, _, _, _, _, _, _, _, _ => none
  | k + 1, x1, x6, x9, x25, x26, x27, x212000, x212001, x212002 => impl_FormulaOf.j2 k x1 x6 x9 x25 x26 x27 x212000 x212001 x212002
end
def impl_FormulaOf.f (k : Nat) (a0_0 : Int) (l0_1 : List (S81)) (l0_2 : List Int) (a1 : Int) : Option (ByteArray × Int) := (impl_ValidNetwork.f k a0_0 l0_1 l0_2).bind fun t212 => (if t212 = true then ((impl_in.f a1 0 (wrap64 ((l0_2.length : Int) - 1))).bind fun t213 => (if t213 = true then (impl_FormulaOf.l0 k a1 (([] : List ByteArray)) l0_1 (l0_1.length : Int) 0 a0_0 l0_1 l0_2) else (some ((⟨#[]⟩ : ByteArray), 2)))) else (some ((⟨#[]⟩ : ByteArray), 1)))
theorem impl_FormulaOf.mono_l : ∀ k, (∀ y0 y1 y2 y3 y4 y5 y6 y7, LeO (impl_FormulaOf.l0 k y0 y1 y2 y3 y4 y5 y6 y7) (impl_FormulaOf.l0 (k + 1) y0 y1 y2 y3 y4 y5 y6 y7)) ∧ (∀ y0 y1 y2 y3 y4 y5 y6 y7 y8, LeO (impl_FormulaOf.j3 k y0 y1 y2 y3 y4 y5 y6 y7 y8) (impl_FormulaOf.j3 (k + 1) y0 y1 y2 y3 y4 y5 y6 y7 y8)) ∧ (∀ y0 y1 y2 y3 y4 y5 y6 y7 y8, LeO (impl_FormulaOf.j2 k y0 y1 y2 y3 y4 y5 y6 y7 y8) (impl_FormulaOf.j2 (k + 1) y0 y1 y2 y3 y4 y5 y6 y7 y8)) ∧ (∀ y0 y1 y2 y3 y4 y5 y6 y7 y8, LeO (impl_FormulaOf.j1 k y0 y1 y2 y3 y4 y5 y6 y7 y8) (impl_FormulaOf.j1 (k + 1) y0 y1 y2 y3 y4 y5 y6 y7 y8))
  | 0 => ⟨fun _ _ _ _ _ _ _ _ r h => by simp [impl_FormulaOf.l0] at h, fun _ _ _ _ _ _ _ _ _ r h => by simp [impl_FormulaOf.j3] at h, fun _ _ _ _ _ _ _ _ _ r h => by simp [impl_FormulaOf.j2] at h, fun _ _ _ _ _ _ _ _ _ r h => by simp [impl_FormulaOf.j1] at h⟩
  | k + 1 => by
    obtain ⟨ih0, ih1, ih2, ih3⟩ := impl_FormulaOf.mono_l k
    refine ⟨?_, ?_, ?_, ?_⟩
    · intro y0 y1 y2 y3 y4 y5 y6 y7
      unfold impl_FormulaOf.l0
      repeat' first | (with_reducible first | apply ih0 | apply ih1 | apply ih2 | apply ih3 | apply impl_ValidNetwork.mono | exact LeO.refl _ | exact LeO.none _ | refine LeO.ite ?_ ?_ | refine LeO.bind ?_ (fun _ => ?_)) | apply ih0 | apply ih1 | apply ih2 | apply ih3 | apply impl_ValidNetwork.mono | exact LeO.none _ | refine LeO.ite ?_ ?_ | refine LeO.bind ?_ (fun _ => ?_)
    · intro y0 y1 y2 y3 y4 y5 y6 y7 y8
      unfold impl_FormulaOf.j3
      repeat' first | (with_reducible first | apply ih0 | apply ih1 | apply ih2 | apply ih3 | apply impl_ValidNetwork.mono | exact LeO.refl _ | exact LeO.none _ | refine LeO.ite ?_ ?_ | refine LeO.bind ?_ (fun _ => ?_)) | apply ih0 | apply ih1 | apply ih2 | apply ih3 | apply impl_ValidNetwork.mono | exact LeO.none _ | refine LeO.ite ?_ ?_ | refine LeO.bind ?_ (fun _ => ?_)
    · intro y0 y1 y2 y3 y4 y5 y6 y7 y8
      unfold impl_FormulaOf.j2
      repeat' first | (with_reducible first | apply ih0 | apply ih1 | apply ih2 | apply ih3 | apply impl_ValidNetwork.mono | exact LeO.refl _ | exact LeO.none _ | refine LeO.ite ?_ ?_ | refine LeO.bind ?_ (fun _ => ?_)) | apply ih0 | apply ih1 | apply ih2 | apply ih3 | apply impl_ValidNetwork.mono | exact LeO.none _ | refine LeO.ite ?_ ?_ | refine LeO.bind ?_ (fun _ => ?_)
    · intro y0 y1 y2 y3 y4 y5 y6 y7 y8
      unfold impl_FormulaOf.j1
      repeat' first | (with_reducible first | apply ih0 | apply ih1 | apply ih2 | apply ih3 | apply impl_ValidNetwork.mono | exact LeO.refl _ | exact LeO.none _ | refine LeO.ite ?_ ?_ | refine LeO.bind ?_ (fun _ => ?_)) | apply ih0 | apply ih1 | apply ih2 | apply ih3 | apply impl_ValidNetwork.mono | exact LeO.none _ | refine LeO.ite ?_ ?_ | refine LeO.bind ?_ (fun _ => ?_)
theorem impl_FormulaOf.mono : ∀ a0 a1 a2 a3 k, LeO (impl_FormulaOf.f k a0 a1 a2 a3) (impl_FormulaOf.f (k + 1) a0 a1 a2 a3) := by
 intro a0 a1 a2 a3 k
 obtain ⟨ih0, ih1, ih2, ih3⟩ := impl_FormulaOf.mono_l k
 unfold impl_FormulaOf.f
 repeat' first | (with_reducible first | apply ih0 | apply ih1 | apply ih2 | apply ih3 | apply impl_ValidNetwork.mono | exact LeO.refl _ | exact LeO.none _ | refine LeO.ite ?_ ?_ | refine LeO.bind ?_ (fun _ => ?_)) | apply ih0 | apply ih1 | apply ih2 | apply ih3 | apply impl_ValidNetwork.mono | exact LeO.none _ | refine LeO.ite ?_ ?_ | refine LeO.bind ?_ (fun _ => ?_)
theorem impl_FormulaOf.calls (k : Nat) (a0_0 : Int) (A0_1 : Option Addr) (c0_1 : Nat) (l0_1 : List (S81)) (A0_2 : Option Addr) (c0_2 : Nat) (l0_2 : List Int) (a1 : Int) (r1 : ByteArray) (r2 : Int) (w : World) (hr0_1 : Kd.C k81 w A0_1 l0_1.length l0_1) (hc0_1 : l0_1.length ≤ c0_1) (hr0_2 : Kd.C (Kd.int .i16) w A0_2 l0_2.length l0_2) (hc0_2 : l0_2.length ≤ c0_2) (h : impl_FormulaOf.f k a0_0 l0_1 l0_2 a1 = some (r1, r2)) :
    Calls Try.prog 36 #[.agg #[.int .i8 a0_0, .slice A0_1 l0_1.length c0_1, .slice A0_2 l0_2.length c0_2], .int .i64 a1] w fun e w' => e = .returned (.tuple #[.string r1, .int .i64 r2]) ∧ Below w.heap.size w w' := by
 have hu31 := Try.underlying31
 have hu81 := Try.underlying81
 have HR0_1 := Aside0.mk hr0_1
 have HC0_1 := Aside0.mk hc0_1
 clear hr0_1 hc0_1
 have HR0_2 := Aside0.mk hr0_2
 have HC0_2 := Aside0.mk hc0_2
 clear hr0_2 hc0_2
 have HB := Aside0.mk (Below.refl w.heap.size w)
 have H : ((impl_ValidNetwork.f k a0_0 l0_1 l0_2).bind fun t212 => (if t212 = true then ((impl_in.f a1 0 (wrap64 ((l0_2.length : Int) - 1))).bind fun t213 => (if t213 = true then (impl_FormulaOf.l0 k a1 (([] : List ByteArray)) l0_1 (l0_1.length : Int) 0 a0_0 l0_1 l0_2) else (some ((⟨#[]⟩ : ByteArray), 2)))) else (some ((⟨#[]⟩ : ByteArray), 1)))) = some (r1, r2) := h
 clear h
 replace H := zob H
 obtain ⟨t212, A30, H⟩ := H
 replace H : (if t212 = true then ((impl_in.f a1 0 (wrap64 ((l0_2.length : Int) - 1))).bind fun t213 => (if t213 = true then (impl_FormulaOf.l0 k a1 (([] : List ByteArray)) l0_1 (l0_1.length : Int) 0 a0_0 l0_1 l0_2) else (some ((⟨#[]⟩ : ByteArray), 2)))) else (some ((⟨#[]⟩ : ByteArray), 1))) = some (r1, r2) := H
 have A3 := Aside0.mk A30
 clear A30
 by_cases c4 : t212 = true
 rotate_left
 ·replace c4 := Bool.eq_false_iff.mpr c4
  subst c4
  have H1 : (some ((⟨#[]⟩ : ByteArray), 1)) = some (r1, r2) := by rw [if_neg (show ¬ (false = true) by decide)] at H; exact H
  clear H
  have H := H1
  clear H1
  simp only [Option.some.injEq, Prod.mk.injEq] at H
  obtain ⟨rfl, rfl⟩ := H
  go_enter Try.func36, Try.ntmps36
  go_wp2_with (first | ((with_reducible refine gate_dst (N := 2) rfl ?_); refine zbx 2 #[.int .i8 a0_0, .slice A0_1 l0_1.length c0_1, .slice A0_2 l0_2.length c0_2] 31 ?_; intro gb211 hg w71 hbox hb; have n_ : _ ∧ _ ∧ _ ∧ _ := ⟨zb HB hb, Aside0.mk (hbox), zg HB hg, zg HB hg⟩; clear HB; obtain ⟨HB, BK211, GW211, GE211⟩ := n_; clear hb hbox hg; obtain ⟨z72_0, z72_1, z72_2, y72_0, y72_1, y72_2⟩ := zB3 BK211) | (go_at_call 27; (with_reducible refine (impl_ValidNetwork.calls k a0_0 _ _ l0_1 _ _ l0_2 false _ ?side1 ?side2 ?side3 ?side4 A3.out).mono ?_); (case side1 => exact zcc HB HR0_1.out); (case side2 => exact HC0_1.out); (case side3 => exact zcc HB HR0_2.out); (case side4 => exact HC0_2.out); rintro e w73 ⟨rfl, hb⟩; have n_ : _ ∧ _ := ⟨zk BK211 hb, zbs hb⟩; clear BK211 HB; obtain ⟨BK211, HB⟩ := n_; (try clear hb); (try clear hb2); (try clear hk); (try clear hi)) | go_quiet (first | (go_at_call 27; (with_reducible refine (impl_ValidNetwork.calls k a0_0 _ _ l0_1 _ _ l0_2 false _ ?side1 ?side2 ?side3 ?side4 A3.out).mono ?_); (case side1 => exact zcc HB HR0_1.out); (case side2 => exact HC0_1.out); (case side3 => exact zcc HB HR0_2.out); (case side4 => exact HC0_2.out); rintro e w73 ⟨rfl, hb⟩; have n0_ := zk BK211 hb; have n1_ := zbs hb; clear BK211; clear HB; have BK211 := n0_; have HB := n1_; clear n0_ n1_; (try clear hb); (try clear hb2); (try clear hk); (try clear hi))))
  go_ret2
  exact ⟨zv, zbo⟩
 subst c4
 have H1 : ((impl_in.f a1 0 (wrap64 ((l0_2.length : Int) - 1))).bind fun t213 => (if t213 = true then (impl_FormulaOf.l0 k a1 (([] : List ByteArray)) l0_1 (l0_1.length : Int) 0 a0_0 l0_1 l0_2) else (some ((⟨#[]⟩ : ByteArray), 2)))) = some (r1, r2) := by rw [if_pos rfl] at H; exact H
 clear H
 have H := H1
 clear H1
 replace H := zob H
 obtain ⟨t213, A50, H⟩ := H
 replace H : (if t213 = true then (impl_FormulaOf.l0 k a1 (([] : List ByteArray)) l0_1 (l0_1.length : Int) 0 a0_0 l0_1 l0_2) else (some ((⟨#[]⟩ : ByteArray), 2))) = some (r1, r2) := H
 have A5 := Aside0.mk A50
 clear A50
 by_cases c6 : t213 = true
 rotate_left
 ·replace c6 := Bool.eq_false_iff.mpr c6
  subst c6
  have H1 : (some ((⟨#[]⟩ : ByteArray), 2)) = some (r1, r2) := by rw [if_neg (show ¬ (false = true) by decide)] at H; exact H
  clear H
  have H := H1
  clear H1
  simp only [Option.some.injEq, Prod.mk.injEq] at H
  obtain ⟨rfl, rfl⟩ := H
  go_enter Try.func36, Try.ntmps36
  go_wp2_with (first | ((with_reducible refine gate_dst (N := 2) rfl ?_); refine zbx 2 #[.int .i8 a0_0, .slice A0_1 l0_1.length c0_1, .slice A0_2 l0_2.length c0_2] 31 ?_; intro gb211 hg w67 hbox hb; have n_ : _ ∧ _ ∧ _ ∧ _ := ⟨zb HB hb, Aside0.mk (hbox), zg HB hg, zg HB hg⟩; clear HB; obtain ⟨HB, BK211, GW211, GE211⟩ := n_; clear hb hbox hg; obtain ⟨z68_0, z68_1, z68_2, y68_0, y68_1, y68_2⟩ := zB3 BK211) | (go_at_call 27; (with_reducible refine (impl_ValidNetwork.calls k a0_0 _ _ l0_1 _ _ l0_2 true _ ?side1 ?side2 ?side3 ?side4 A3.out).mono ?_); (case side1 => exact zcc HB HR0_1.out); (case side2 => exact HC0_1.out); (case side3 => exact zcc HB HR0_2.out); (case side4 => exact HC0_2.out); rintro e w69 ⟨rfl, hb⟩; have n_ : _ ∧ _ := ⟨zk BK211 hb, zbs hb⟩; clear BK211 HB; obtain ⟨BK211, HB⟩ := n_; (try clear hb); (try clear hb2); (try clear hk); (try clear hi); obtain ⟨z70_0, z70_1, z70_2, y70_0, y70_1, y70_2⟩ := zB3 BK211) | (go_at_call 82; (with_reducible refine (impl_in.calls a1 0 (wrap64 ((l0_2.length : Int) - 1)) false _ A5.out).mono ?_); rintro e w' ⟨rfl, ⟨nd, rfl⟩⟩; (try first | exact ⟨rfl, _, World.drewN_drewN _ _ _⟩ | exact ⟨rfl, _, Eq.trans (World.drewN_drewN _ _ _) (congrArg (World.drewN _) (Nat.add_assoc _ _ _))⟩)) | go_quiet (first | (go_at_call 27; (with_reducible refine (impl_ValidNetwork.calls k a0_0 _ _ l0_1 _ _ l0_2 true _ ?side1 ?side2 ?side3 ?side4 A3.out).mono ?_); (case side1 => exact zcc HB HR0_1.out); (case side2 => exact HC0_1.out); (case side3 => exact zcc HB HR0_2.out); (case side4 => exact HC0_2.out); rintro e w69 ⟨rfl, hb⟩; have n0_ := zk BK211 hb; have n1_ := zbs hb; clear BK211; clear HB; have BK211 := n0_; have HB := n1_; clear n0_ n1_; (try clear hb); (try clear hb2); (try clear hk); (try clear hi); have z70_0 : w69.cell? ⟨gb211, 0, none⟩ = some (.int .i8 a0_0) := (blk_cell BK211.out 0).trans rfl; have z70_1 : w69.cell? ⟨gb211, 1, none⟩ = some (.slice A0_1 l0_1.length c0_1) := (blk_cell BK211.out 1).trans rfl; have z70_2 : w69.cell? ⟨gb211, 2, none⟩ = some (.slice A0_2 l0_2.length c0_2) := (blk_cell BK211.out 2).trans rfl; have y70_0 := blk_frozen BK211.out 0; have y70_1 := blk_frozen BK211.out 1; have y70_2 := blk_frozen BK211.out 2) | (go_at_call 82; (with_reducible refine (impl_in.calls a1 0 (wrap64 ((l0_2.length : Int) - 1)) false _ A5.out).mono ?_); rintro e w' ⟨rfl, ⟨nd, rfl⟩⟩; (try first | exact ⟨rfl, _, World.drewN_drewN _ _ _⟩ | exact ⟨rfl, _, Eq.trans (World.drewN_drewN _ _ _) (congrArg (World.drewN _) (Nat.add_assoc _ _ _))⟩))))
  go_ret2
  exact ⟨zv, zbo⟩
 subst c6
 have H1 : (impl_FormulaOf.l0 k a1 (([] : List ByteArray)) l0_1 (l0_1.length : Int) 0 a0_0 l0_1 l0_2) = some (r1, r2) := by rw [if_pos rfl] at H; exact H
 clear H
 have H := H1
 clear H1
 obtain ⟨y214, hy214⟩ : ∃ y_ : List ByteArray, y_ = (([] : List ByteArray)) := ⟨_, rfl⟩
 replace H : (impl_FormulaOf.l0 k a1 y214 l0_1 (l0_1.length : Int) 0 a0_0 l0_1 l0_2) = some (r1, r2) := by first | (rw [hy214]; with_reducible exact H) | (have H2_ := (Option.bind_some _ _).symm.trans H; rw [hy214]; with_reducible exact H2_) | (have H2_ := (Option.bind_some _ _).symm.trans H; with_reducible exact H2_) | with_reducible exact H | (rw [hy214]; exact H) | exact H
 have Ny214 := Aside0.mk hy214
 clear hy214
 have H' := Aside0.mk H
 clear H
 go_enter Try.func36, Try.ntmps36
 go_wp2_with (first | ((with_reducible refine gate_dst (N := 2) rfl ?_); refine zbx 2 #[.int .i8 a0_0, .slice A0_1 l0_1.length c0_1, .slice A0_2 l0_2.length c0_2] 31 ?_; intro gb211 hg w7 hbox hb; have n_ : _ ∧ _ ∧ _ ∧ _ := ⟨zb HB hb, Aside0.mk (hbox), zg HB hg, zg HB hg⟩; clear HB; obtain ⟨HB, BK211, GW211, GE211⟩ := n_; clear hb hbox hg; obtain ⟨z8_0, z8_1, z8_2, y8_0, y8_1, y8_2⟩ := zB3 BK211) | (go_at_call 27; (with_reducible refine (impl_ValidNetwork.calls k a0_0 _ _ l0_1 _ _ l0_2 true _ ?side1 ?side2 ?side3 ?side4 A3.out).mono ?_); (case side1 => exact zcc HB HR0_1.out); (case side2 => exact HC0_1.out); (case side3 => exact zcc HB HR0_2.out); (case side4 => exact HC0_2.out); rintro e w9 ⟨rfl, hb⟩; have n_ : _ ∧ _ := ⟨zk BK211 hb, zbs hb⟩; clear BK211 HB; obtain ⟨BK211, HB⟩ := n_; (try clear hb); (try clear hb2); (try clear hk); (try clear hi); obtain ⟨z10_0, z10_1, z10_2, y10_0, y10_1, y10_2⟩ := zB3 BK211) | (go_at_call 82; (with_reducible refine (impl_in.calls a1 0 (wrap64 ((l0_2.length : Int) - 1)) true _ A5.out).mono ?_); rintro e w' ⟨rfl, ⟨nd, rfl⟩⟩; (try first | exact ⟨rfl, _, World.drewN_drewN _ _ _⟩ | exact ⟨rfl, _, Eq.trans (World.drewN_drewN _ _ _) (congrArg (World.drewN _) (Nat.add_assoc _ _ _))⟩)) | ((with_reducible refine gate_dst (N := 23) rfl ?_); refine Kd.R_lit Kd.string _ 9 ?hg (N := 23) ?hd (xs := ([] : List ByteArray)) (inner := []) (ok := fun _ => True) (okp := fun _ => True) ?hr ?hp (fun _ hk => hk) trivial (Below.refl _ _) (Nat.le_refl _) (by simp) ?_; (case hd => rfl); (case hg => rfl); (case hr => exact zgs); (case hp => exact (Reps.none _ _)); intro v215 w11 ho12 hb hg_ hnew_; clear hg_ hnew_; (first | rw [← Ny214.out] at ho12 | (simp only [Int.reduceToNat] at ho12; rw [← Ny214.out] at ho12)); have n_ : _ ∧ _ ∧ _ := ⟨Aside0.mk (Kd.R_lower ho12 (zz HB)), zk BK211 hb, zbs hb⟩; clear BK211 HB; obtain ⟨HO216, BK211, HB⟩ := n_; clear hb ho12; obtain ⟨z13_0, z13_1, z13_2, y13_0, y13_1, y13_2⟩ := zB3 BK211) | go_quiet (first | (go_at_call 27; (with_reducible refine (impl_ValidNetwork.calls k a0_0 _ _ l0_1 _ _ l0_2 true _ ?side1 ?side2 ?side3 ?side4 A3.out).mono ?_); (case side1 => exact zcc HB HR0_1.out); (case side2 => exact HC0_1.out); (case side3 => exact zcc HB HR0_2.out); (case side4 => exact HC0_2.out); rintro e w9 ⟨rfl, hb⟩; have n0_ := zk BK211 hb; have n1_ := zbs hb; clear BK211; clear HB; have BK211 := n0_; have HB := n1_; clear n0_ n1_; (try clear hb); (try clear hb2); (try clear hk); (try clear hi); have z10_0 : w9.cell? ⟨gb211, 0, none⟩ = some (.int .i8 a0_0) := (blk_cell BK211.out 0).trans rfl; have z10_1 : w9.cell? ⟨gb211, 1, none⟩ = some (.slice A0_1 l0_1.length c0_1) := (blk_cell BK211.out 1).trans rfl; have z10_2 : w9.cell? ⟨gb211, 2, none⟩ = some (.slice A0_2 l0_2.length c0_2) := (blk_cell BK211.out 2).trans rfl; have y10_0 := blk_frozen BK211.out 0; have y10_1 := blk_frozen BK211.out 1; have y10_2 := blk_frozen BK211.out 2) | (go_at_call 82; (with_reducible refine (impl_in.calls a1 0 (wrap64 ((l0_2.length : Int) - 1)) true _ A5.out).mono ?_); rintro e w' ⟨rfl, ⟨nd, rfl⟩⟩; (try first | exact ⟨rfl, _, World.drewN_drewN _ _ _⟩ | exact ⟨rfl, _, Eq.trans (World.drewN_drewN _ _ _) (congrArg (World.drewN _) (Nat.add_assoc _ _ _))⟩))))
 go_loopg [6, 27] k (fun kq v6 v27 w' => ∃ (x6_1 : List ByteArray) (x27_1 : Int), v27 = .int .i64 x27_1 ∧ Aside0 (impl_FormulaOf.l0 kq a1 x6_1 l0_1 (l0_1.length : Int) x27_1 a0_0 l0_1 l0_2 = some (r1, r2)) ∧ Aside0 (kq ≤ k) ∧ Aside0 (Kd.R Kd.string 9 w' w.heap.size (fun _ => True) v6 x6_1) ∧ Aside0 (w'.heap[gb211]? = some (.cells #[.int .i8 a0_0, (.slice A0_1 l0_1.length c0_1), (.slice A0_2 l0_2.length c0_2)] 31 (0, 0))) ∧ Aside0 (Below w.heap.size w w'))
 case atStart => exact ⟨(y214), (0), zi, H', ⟨Nat.le_refl _⟩, ze HO216, zh BK211, zba⟩
 clear H'
 try clear p2
 try clear c3
 try clear c4
 try clear c6
 try clear p6
 try clear z10_0 z10_1 z10_2
 try clear z13_0 z13_1 z13_2
 try clear z8_0 z8_1 z8_2
 try clear y10_0
 try clear y10_1
 try clear y10_2
 try clear y13_0
 try clear y13_1
 try clear y13_2
 try clear y8_0
 try clear y8_1
 try clear y8_2
 obtain ⟨x6_1, x27_1, rfl, HA, HK1, HO_6, BK211, HB⟩ := hrel
 cases gk with
 | zero => exact absurd HA.out (by simp [impl_FormulaOf.l0])
 | succ k1 => ?_
 have H := HA.out
 clear HA
 simp only [impl_FormulaOf.l0] at H
 by_cases c14 : x27_1 < (l0_1.length : Int)
 rotate_left
 ·rw [if_neg c14] at H
  have c14b0 : decide (x27_1 < (l0_1.length : Int)) = false := decide_eq_false c14
  clear c14
  by_cases c58 : 0 ≤ a1
  rotate_left
  ·rw [if_neg c58] at H
   exact absurd H (by simp)
  rw [if_pos c58] at H
  have c58b0 : decide (0 ≤ a1) = true := decide_eq_true c58
  clear c58
  by_cases c59 : a1 < (l0_2.length : Int)
  rotate_left
  ·rw [if_neg c59] at H
   exact absurd H (by simp)
  rw [if_pos c59] at H
  have c59b0 : decide (a1 < (l0_2.length : Int)) = true := decide_eq_true c59
  clear c59
  by_cases c60 : 0 ≤ (rd l0_2 a1)
  rotate_left
  ·rw [if_neg c60] at H
   exact absurd H (by simp)
  rw [if_pos c60] at H
  have c60b0 : decide (0 ≤ (rd l0_2 a1)) = true := decide_eq_true c60
  clear c60
  by_cases c61 : (rd l0_2 a1) < (x6_1.length : Int)
  rotate_left
  ·rw [if_neg c61] at H
   exact absurd H (by simp)
  rw [if_pos c61] at H
  have c61b0 : decide ((rd l0_2 a1) < (x6_1.length : Int)) = true := decide_eq_true c61
  clear c61
  by_cases c62 : ((rdOf ByteArray.empty x6_1 (rd l0_2 a1)).size : Int) > 200
  ·rw [if_pos c62] at H
   have c62b0 : decide (200 < ((rdOf ByteArray.empty x6_1 (rd l0_2 a1)).size : Int)) = true := decide_eq_true c62
   have c62b1 : decide (200 < (rdOf ByteArray.empty x6_1 (rd l0_2 a1)).size) = true := decide_eq_true (by omega)
   clear c62
   simp only [Option.some.injEq, Prod.mk.injEq] at H
   obtain ⟨rfl, rfl⟩ := H
   obtain ⟨z63_0, z63_1, z63_2, y63_0, y63_1, y63_2⟩ := zB3 BK211
   have p226 : 0 ≤ (a1 : Int) := of_decide_eq_true zA
   have q226 : a1 < (l0_2.length : Int) := of_decide_eq_true zA
   obtain ⟨ad226, e226, hx226_0⟩ := Kd.at_int HR0_2.out a1 p226 q226
   cases e226
   replace hx226_0 := zc HB hx226_0
   replace p226 := eq_true p226
   replace q226 := eq_true q226
   obtain ⟨Ao64, co64, eo64⟩ := Kd.R_slice HO_6.out
   subst eo64
   have p227 : 0 ≤ ((rd l0_2 a1) : Int) := of_decide_eq_true zA
   have q227 : (rd l0_2 a1) < (x6_1.length : Int) := of_decide_eq_true zA
   obtain ⟨ad227, e227, hx227_0⟩ := Kd.at_string (Kd.R_reads' HO_6.out).2.2 (rd l0_2 a1) p227 q227
   cases e227
   replace p227 := eq_true p227
   replace q227 := eq_true q227
   go_wp2
   repeat (go_quiet (fail); try go_wp2)
   go_ret2
   exact ⟨zv, zbo⟩
  rw [if_neg c62] at H
  have c62b0 : decide (200 < ((rdOf ByteArray.empty x6_1 (rd l0_2 a1)).size : Int)) = false := decide_eq_false c62
  have c62b1 : decide (200 < (rdOf ByteArray.empty x6_1 (rd l0_2 a1)).size) = false := decide_eq_false (by omega)
  clear c62
  simp only [Option.some.injEq, Prod.mk.injEq] at H
  obtain ⟨rfl, rfl⟩ := H
  obtain ⟨z65_0, z65_1, z65_2, y65_0, y65_1, y65_2⟩ := zB3 BK211
  have p226 : 0 ≤ (a1 : Int) := of_decide_eq_true zA
  have q226 : a1 < (l0_2.length : Int) := of_decide_eq_true zA
  obtain ⟨ad226, e226, hx226_0⟩ := Kd.at_int HR0_2.out a1 p226 q226
  cases e226
  replace hx226_0 := zc HB hx226_0
  replace p226 := eq_true p226
  replace q226 := eq_true q226
  obtain ⟨Ao66, co66, eo66⟩ := Kd.R_slice HO_6.out
  subst eo66
  have p227 : 0 ≤ ((rd l0_2 a1) : Int) := of_decide_eq_true zA
  have q227 : (rd l0_2 a1) < (x6_1.length : Int) := of_decide_eq_true zA
  obtain ⟨ad227, e227, hx227_0⟩ := Kd.at_string (Kd.R_reads' HO_6.out).2.2 (rd l0_2 a1) p227 q227
  cases e227
  replace p227 := eq_true p227
  replace q227 := eq_true q227
  go_wp2
  repeat (go_quiet (fail); try go_wp2)
  go_ret2
  exact ⟨zv, zbo⟩
 rw [if_pos c14] at H
 have c14b0 : decide (x27_1 < (l0_1.length : Int)) = true := decide_eq_true c14
 clear c14
 by_cases c15 : 0 ≤ x27_1
 rotate_left
 ·rw [if_neg c15] at H
  exact absurd H (by simp)
 rw [if_pos c15] at H
 have c15b0 : decide (0 ≤ x27_1) = true := decide_eq_true c15
 clear c15
 by_cases c16 : x27_1 < (l0_1.length : Int)
 rotate_left
 ·rw [if_neg c16] at H
  exact absurd H (by simp)
 rw [if_pos c16] at H
 have c16b0 : decide (x27_1 < (l0_1.length : Int)) = true := decide_eq_true c16
 clear c16
 have HC17 := Aside0.mk H
 clear H
 have p217 : 0 ≤ (x27_1 : Int) := of_decide_eq_true zA
 have q217 : x27_1 < (l0_1.length : Int) := of_decide_eq_true zA
 obtain ⟨ad217, e217, hx217_0, hx217_1, hx217_2⟩ := at_T81 HR0_1.out x27_1 p217 q217
 cases e217
 replace hx217_0 := zc HB hx217_0
 replace hx217_1 := zc HB hx217_1
 replace hx217_2 := zc HB hx217_2
 replace p217 := eq_true p217
 replace q217 := eq_true q217
 go_upto_block 3 with (first | ((with_reducible refine gate_dst (N := 8) rfl ?_); refine zbx 8 #[.int .i8 0, .int .i16 0, .int .i16 0] 81 ?_; intro gb218 hg w18 hbox hb; have n_ : _ ∧ _ ∧ _ ∧ _ ∧ _ ∧ _ ∧ _ ∧ _ := ⟨zr HO_6 hb, zk BK211 hb, zbs hb, Aside0.mk (hbox), zg HB hg, zg HB hg, zn1 BK211 hg, zn2 BK211 hg⟩; clear HO_6 BK211 HB; obtain ⟨HO_6, BK211, HB, BK218, GW218, GE218, NB211_218, NB218_211⟩ := n_; clear hb hbox hg; have hnb19 := NB218_211.out; have hnc19 := NB211_218.out; obtain ⟨z20_0, z20_1, z20_2, y20_0, y20_1, y20_2⟩ := zB3 BK218))
 refine zblk ?_
 intro KB hKB
 go_upto_if 33 with (first | ((with_reducible refine gate_dst (N := 8) rfl ?_); refine zbx 8 #[.int .i8 0, .int .i16 0, .int .i16 0] 81 ?_; intro gb218 hg w18 hbox hb; have n_ : _ ∧ _ ∧ _ ∧ _ ∧ _ ∧ _ ∧ _ ∧ _ := ⟨zr HO_6 hb, zk BK211 hb, zbs hb, Aside0.mk (hbox), zg HB hg, zg HB hg, zn1 BK211 hg, zn2 BK211 hg⟩; clear HO_6 BK211 HB; obtain ⟨HO_6, BK211, HB, BK218, GW218, GE218, NB211_218, NB218_211⟩ := n_; clear hb hbox hg; have hnb19 := NB218_211.out; have hnc19 := NB211_218.out; obtain ⟨z20_0, z20_1, z20_2, y20_0, y20_1, y20_2⟩ := zB3 BK218))
 repeat (go_quiet (first | ((with_reducible refine gate_dst (N := 8) rfl ?_); refine zbx 8 #[.int .i8 0, .int .i16 0, .int .i16 0] 81 ?_; intro gb218 hg w18 hbox hb; have n0_ := zr HO_6 hb; have n1_ := zk BK211 hb; have n2_ := zbs hb; have n3_ := Aside0.mk (hbox); have n4_ := zg HB hg; have n5_ := zg HB hg; have n6_ := zn1 BK211 hg; have n7_ := zn2 BK211 hg; clear HO_6; clear BK211; clear HB; have HO_6 := n0_; have BK211 := n1_; have HB := n2_; have BK218 := n3_; have GW218 := n4_; have GE218 := n5_; have NB211_218 := n6_; have NB218_211 := n7_; clear n0_ n1_ n2_ n3_ n4_ n5_ n6_ n7_; clear hb hbox hg; have hnb19 := NB218_211.out; have hnc19 := NB211_218.out; have z20_0 : w18.cell? ⟨gb218, 0, none⟩ = some (.int .i8 0) := (blk_cell BK218.out 0).trans rfl; have z20_1 : w18.cell? ⟨gb218, 1, none⟩ = some (.int .i16 0) := (blk_cell BK218.out 1).trans rfl; have z20_2 : w18.cell? ⟨gb218, 2, none⟩ = some (.int .i16 0) := (blk_cell BK218.out 2).trans rfl; have y20_0 := blk_frozen BK218.out 0; have y20_1 := blk_frozen BK218.out 1; have y20_2 := blk_frozen BK218.out 2)); go_upto_if 33 with (first | ((with_reducible refine gate_dst (N := 8) rfl ?_); refine zbx 8 #[.int .i8 0, .int .i16 0, .int .i16 0] 81 ?_; intro gb218 hg w18 hbox hb; have n0_ := zr HO_6 hb; have n1_ := zk BK211 hb; have n2_ := zbs hb; have n3_ := Aside0.mk (hbox); have n4_ := zg HB hg; have n5_ := zg HB hg; have n6_ := zn1 BK211 hg; have n7_ := zn2 BK211 hg; clear HO_6; clear BK211; clear HB; have HO_6 := n0_; have BK211 := n1_; have HB := n2_; have BK218 := n3_; have GW218 := n4_; have GE218 := n5_; have NB211_218 := n6_; have NB218_211 := n7_; clear n0_ n1_ n2_ n3_ n4_ n5_ n6_ n7_; clear hb hbox hg; have hnb19 := NB218_211.out; have hnc19 := NB211_218.out; have z20_0 : w18.cell? ⟨gb218, 0, none⟩ = some (.int .i8 0) := (blk_cell BK218.out 0).trans rfl; have z20_1 : w18.cell? ⟨gb218, 1, none⟩ = some (.int .i16 0) := (blk_cell BK218.out 1).trans rfl; have z20_2 : w18.cell? ⟨gb218, 2, none⟩ = some (.int .i16 0) := (blk_cell BK218.out 2).trans rfl; have y20_0 := blk_frozen BK218.out 0; have y20_1 := blk_frozen BK218.out 1; have y20_2 := blk_frozen BK218.out 2)))
 (try simp only [Act.put, List.setIfInBounds_toArray, List.set_cons_zero, List.set_cons_succ])
 go_cut [9, 33] (fun v9 v33 wc => ∃ (kq : Nat) (x9_16 : ByteArray), v9 = .string x9_16 ∧ Aside0 (impl_FormulaOf.j3 kq a1 x6_1 x9_16 l0_1 (l0_1.length : Int) x27_1 a0_0 l0_1 l0_2 = some (r1, r2)) ∧ Aside0 (kq ≤ k1) ∧ Aside0 (Kd.R Kd.string 9 wc w.heap.size (fun _ => True) u6 x6_1) ∧ Aside0 (wc.heap[gb211]? = some (.cells #[.int .i8 a0_0, (.slice (some ad217) l0_1.length c0_1), (.slice A0_2 l0_2.length c0_2)] 31 (0, 0))) ∧ Aside0 (wc.heap[gb218]? = some (.cells #[.int .i8 ((rd_T81 l0_1 x27_1).f0), .int .i16 ((rd_T81 l0_1 x27_1).f1), .int .i16 ((rd_T81 l0_1 x27_1).f2)] 81 (0, 0))) ∧ Aside0 (Below w.heap.size w wc))
 case first =>
  have H := HC17.out
  clear HC17
  by_cases c21 : ((rd_T81 l0_1 x27_1).f0) = 0
  ·rw [if_pos c21] at H
   have c21b0 : (((rd_T81 l0_1 x27_1).f0) == 0) = true := beq_iff_eq.mpr c21
   have c21b1 : (((rd_T81 l0_1 x27_1).f0) != 0) = false := bne_eq_false_iff_eq.mpr c21
   clear c21
   (first | rw [c21b0] | (simp only [i64_w, i32_w]; rw [c21b0]) | (have h_ := c21b0; simp only [bne] at h_; rw [h_]) | skip)
   by_cases c22 : 0 ≤ ((rd_T81 l0_1 x27_1).f1)
   rotate_left
   ·rw [if_neg c22] at H
    exact absurd H (by simp)
   rw [if_pos c22] at H
   have c22b0 := eq_true c22
   have c22b1 : decide (0 ≤ ((rd_T81 l0_1 x27_1).f1)) = true := decide_eq_true c22
   clear c22
   by_cases c23 : ((rd_T81 l0_1 x27_1).f1) ≤ (IntKind.i16.wrap (((rd_T81 l0_1 x27_1).f1) + 1))
   rotate_left
   ·rw [if_neg c23] at H
    exact absurd H (by simp)
   rw [if_pos c23] at H
   have c23b0 := eq_true c23
   have c23b1 : decide (((rd_T81 l0_1 x27_1).f1) ≤ (IntKind.i16.wrap (((rd_T81 l0_1 x27_1).f1) + 1))) = true := decide_eq_true c23
   by_cases c24 : (IntKind.i16.wrap (((rd_T81 l0_1 x27_1).f1) + 1)) ≤ 6
   rotate_left
   ·rw [if_neg c24] at H
    exact absurd H (by simp)
   rw [if_pos c24] at H
   have c24b0 := eq_true c24
   have c24b1 : decide ((IntKind.i16.wrap (((rd_T81 l0_1 x27_1).f1) + 1)) ≤ 6) = true := decide_eq_true c24
   have H' := Aside0.mk H
   clear H
   have hnb25 := NB218_211.out
   have hnc25 := NB211_218.out
   obtain ⟨z26_0, z26_1, z26_2, y26_0, y26_1, y26_2⟩ := zB3 BK218
   go_wp2
   repeat (go_quiet (fail); try go_wp2)
   go_meet
   case rel => exact ⟨_, ((⟨#[97, 98, 99, 100, 101, 102]⟩ : ByteArray).extract (((rd_T81 l0_1 x27_1).f1) : Int).toNat ((IntKind.i16.wrap (((rd_T81 l0_1 x27_1).f1) + 1)) : Int).toNat), zi, H', ⟨by have := HK1.out; first | omega | exact Nat.le_refl _⟩, ⟨Kd.R_mono (zs HO_6 BK218).out (fun _ hk => trivial)⟩, zf BK211 NB211_218, ⟨zp BK218⟩, zba⟩
  rw [if_neg c21] at H
  have c21b0 : (((rd_T81 l0_1 x27_1).f0) == 0) = false := beq_eq_false_iff_ne.mpr c21
  have c21b1 : (((rd_T81 l0_1 x27_1).f0) != 0) = true := bne_iff_ne.mpr c21
  (first | rw [c21b0] | (simp only [i64_w, i32_w]; rw [c21b0]) | (have h_ := c21b0; simp only [bne] at h_; rw [h_]) | skip)
  have HC27 := Aside0.mk H
  clear H
  go_upto_if 41 with (fail)
  repeat (go_quiet (fail); go_upto_if 41 with (fail))
  go_cut [9, 41] (fun v9 v41 wc => ∃ (kq : Nat) (x9_26 : ByteArray), v9 = .string x9_26 ∧ Aside0 (impl_FormulaOf.j2 kq a1 x6_1 x9_26 l0_1 (l0_1.length : Int) x27_1 a0_0 l0_1 l0_2 = some (r1, r2)) ∧ Aside0 (kq ≤ k1) ∧ Aside0 (Kd.R Kd.string 9 wc w.heap.size (fun _ => True) u6 x6_1) ∧ Aside0 (wc.heap[gb211]? = some (.cells #[.int .i8 a0_0, (.slice (some ad217) l0_1.length c0_1), (.slice A0_2 l0_2.length c0_2)] 31 (0, 0))) ∧ Aside0 (wc.heap[gb218]? = some (.cells #[.int .i8 ((rd_T81 l0_1 x27_1).f0), .int .i16 ((rd_T81 l0_1 x27_1).f1), .int .i16 ((rd_T81 l0_1 x27_1).f2)] 81 (0, 0))) ∧ Aside0 (Below w.heap.size w wc))
  case first =>
   have H := HC27.out
   clear HC27
   by_cases c28 : ((rd_T81 l0_1 x27_1).f0) = 2
   ·rw [if_pos c28] at H
    have c28b0 : (((rd_T81 l0_1 x27_1).f0) == 2) = true := beq_iff_eq.mpr c28
    have c28b1 : (((rd_T81 l0_1 x27_1).f0) != 2) = false := bne_eq_false_iff_eq.mpr c28
    clear c28
    (first | rw [c28b0] | (simp only [i64_w, i32_w]; rw [c28b0]) | (have h_ := c28b0; simp only [bne] at h_; rw [h_]) | skip)
    by_cases c29 : 0 ≤ ((rd_T81 l0_1 x27_1).f1)
    rotate_left
    ·rw [if_neg c29] at H
     exact absurd H (by simp)
    rw [if_pos c29] at H
    have c29b0 : decide (0 ≤ ((rd_T81 l0_1 x27_1).f1)) = true := decide_eq_true c29
    clear c29
    by_cases c30 : ((rd_T81 l0_1 x27_1).f1) < (x6_1.length : Int)
    rotate_left
    ·rw [if_neg c30] at H
     exact absurd H (by simp)
    rw [if_pos c30] at H
    have c30b0 : decide (((rd_T81 l0_1 x27_1).f1) < (x6_1.length : Int)) = true := decide_eq_true c30
    clear c30
    by_cases c31 : 1 + (rdOf ByteArray.empty x6_1 ((rd_T81 l0_1 x27_1).f1)).size ≤ 9223372036854775807
    rotate_left
    ·rw [if_neg c31] at H
     exact absurd H (by simp)
    rw [if_pos c31] at H
    have c31b0 := eq_true c31
    have c31b1 : decide (1 + (rdOf ByteArray.empty x6_1 ((rd_T81 l0_1 x27_1).f1)).size ≤ 9223372036854775807) = true := decide_eq_true c31
    try have c31b2 : (9223372036854775807 < 1 + (rdOf ByteArray.empty x6_1 ((rd_T81 l0_1 x27_1).f1)).size) = False := eq_false (Nat.not_lt.2 c31)
    by_cases c32 : 1 + (rdOf ByteArray.empty x6_1 ((rd_T81 l0_1 x27_1).f1)).size + 1 ≤ 9223372036854775807
    rotate_left
    ·rw [if_neg c32] at H
     exact absurd H (by simp)
    rw [if_pos c32] at H
    have c32b0 := eq_true c32
    have c32b1 : decide (1 + (rdOf ByteArray.empty x6_1 ((rd_T81 l0_1 x27_1).f1)).size + 1 ≤ 9223372036854775807) = true := decide_eq_true c32
    try have c32b2 : (9223372036854775807 < 1 + (rdOf ByteArray.empty x6_1 ((rd_T81 l0_1 x27_1).f1)).size + 1) = False := eq_false (Nat.not_lt.2 c32)
    by_cases c33 : 0 ≤ ((rd_T81 l0_1 x27_1).f2)
    rotate_left
    ·rw [if_neg c33] at H
     exact absurd H (by simp)
    rw [if_pos c33] at H
    have c33b0 : decide (0 ≤ ((rd_T81 l0_1 x27_1).f2)) = true := decide_eq_true c33
    clear c33
    by_cases c34 : ((rd_T81 l0_1 x27_1).f2) < (x6_1.length : Int)
    rotate_left
    ·rw [if_neg c34] at H
     exact absurd H (by simp)
    rw [if_pos c34] at H
    have c34b0 : decide (((rd_T81 l0_1 x27_1).f2) < (x6_1.length : Int)) = true := decide_eq_true c34
    clear c34
    by_cases c35 : 1 + (rdOf ByteArray.empty x6_1 ((rd_T81 l0_1 x27_1).f1)).size + 1 + (rdOf ByteArray.empty x6_1 ((rd_T81 l0_1 x27_1).f2)).size ≤ 9223372036854775807
    rotate_left
    ·rw [if_neg c35] at H
     exact absurd H (by simp)
    rw [if_pos c35] at H
    have c35b0 := eq_true c35
    have c35b1 : decide (1 + (rdOf ByteArray.empty x6_1 ((rd_T81 l0_1 x27_1).f1)).size + 1 + (rdOf ByteArray.empty x6_1 ((rd_T81 l0_1 x27_1).f2)).size ≤ 9223372036854775807) = true := decide_eq_true c35
    try have c35b2 : (9223372036854775807 < 1 + (rdOf ByteArray.empty x6_1 ((rd_T81 l0_1 x27_1).f1)).size + 1 + (rdOf ByteArray.empty x6_1 ((rd_T81 l0_1 x27_1).f2)).size) = False := eq_false (Nat.not_lt.2 c35)
    by_cases c36 : 1 + (rdOf ByteArray.empty x6_1 ((rd_T81 l0_1 x27_1).f1)).size + 1 + (rdOf ByteArray.empty x6_1 ((rd_T81 l0_1 x27_1).f2)).size + 1 ≤ 9223372036854775807
    rotate_left
    ·rw [if_neg c36] at H
     exact absurd H (by simp)
    rw [if_pos c36] at H
    have c36b0 := eq_true c36
    have c36b1 : decide (1 + (rdOf ByteArray.empty x6_1 ((rd_T81 l0_1 x27_1).f1)).size + 1 + (rdOf ByteArray.empty x6_1 ((rd_T81 l0_1 x27_1).f2)).size + 1 ≤ 9223372036854775807) = true := decide_eq_true c36
    try have c36b2 : (9223372036854775807 < 1 + (rdOf ByteArray.empty x6_1 ((rd_T81 l0_1 x27_1).f1)).size + 1 + (rdOf ByteArray.empty x6_1 ((rd_T81 l0_1 x27_1).f2)).size + 1) = False := eq_false (Nat.not_lt.2 c36)
    have H' := Aside0.mk H
    clear H
    have hnb37 := NB218_211.out
    have hnc37 := NB211_218.out
    obtain ⟨z38_0, z38_1, z38_2, y38_0, y38_1, y38_2⟩ := zB3 BK218
    obtain ⟨Ao39, co39, eo39⟩ := Kd.R_slice HO_6.out
    subst eo39
    have p219 : 0 ≤ (((rd_T81 l0_1 x27_1).f1) : Int) := of_decide_eq_true zA
    have q219 : ((rd_T81 l0_1 x27_1).f1) < (x6_1.length : Int) := of_decide_eq_true zA
    obtain ⟨ad219, e219, hx219_0⟩ := Kd.at_string (Kd.R_reads' HO_6.out).2.2 ((rd_T81 l0_1 x27_1).f1) p219 q219
    cases e219
    have hn219_0 : ad219.block ≠ gb218 := Kd.own_blk (Kd.R_ne HO_6.out BK218.out (by decide))
    have hn219_1 : ad219.block ≠ gb218 := Kd.own_blk (Kd.R_ne HO_6.out BK218.out (by decide))
    have hn219_2 : ad219.block ≠ gb218 := Kd.own_blk (Kd.R_ne HO_6.out BK218.out (by decide))
    replace hx219_0 := (cell_far (p := ⟨gb218, 0, none⟩) (by first | (rw [add_block]; exact hn219_0) | (show (Addr.add _ _).block ≠ _; rw [add_block]; exact hn219_0) | exact hn219_0) (.int .i8 ((rd_T81 l0_1 x27_1).f0))).trans hx219_0
    replace hx219_0 := (cell_far (p := ⟨gb218, 1, none⟩) (by first | (rw [add_block]; exact hn219_1) | (show (Addr.add _ _).block ≠ _; rw [add_block]; exact hn219_1) | exact hn219_1) (.int .i16 ((rd_T81 l0_1 x27_1).f1))).trans hx219_0
    replace hx219_0 := (cell_far (p := ⟨gb218, 2, none⟩) (by first | (rw [add_block]; exact hn219_2) | (show (Addr.add _ _).block ≠ _; rw [add_block]; exact hn219_2) | exact hn219_2) (.int .i16 ((rd_T81 l0_1 x27_1).f2))).trans hx219_0
    (try have hy219_0 := fun (n_ : Nat) => (show (((((w18.drewN n_).setCell ⟨gb218, 0, none⟩ (.int .i8 ((rd_T81 l0_1 x27_1).f0))).setCell ⟨gb218, 1, none⟩ (.int .i16 ((rd_T81 l0_1 x27_1).f1))).setCell ⟨gb218, 2, none⟩ (.int .i16 ((rd_T81 l0_1 x27_1).f2)))).cell? _ = some _ from hx219_0))
    clear hn219_0
    clear hn219_1
    clear hn219_2
    replace p219 := eq_true p219
    replace q219 := eq_true q219
    have p220 : 0 ≤ (((rd_T81 l0_1 x27_1).f2) : Int) := of_decide_eq_true zA
    have q220 : ((rd_T81 l0_1 x27_1).f2) < (x6_1.length : Int) := of_decide_eq_true zA
    obtain ⟨ad220, e220, hx220_0⟩ := Kd.at_string (Kd.R_reads' HO_6.out).2.2 ((rd_T81 l0_1 x27_1).f2) p220 q220
    obtain rfl : ad219 = ad220 := (by injection e220)
    have hn220_0 : ad219.block ≠ gb218 := Kd.own_blk (Kd.R_ne HO_6.out BK218.out (by decide))
    have hn220_1 : ad219.block ≠ gb218 := Kd.own_blk (Kd.R_ne HO_6.out BK218.out (by decide))
    have hn220_2 : ad219.block ≠ gb218 := Kd.own_blk (Kd.R_ne HO_6.out BK218.out (by decide))
    replace hx220_0 := (cell_far (p := ⟨gb218, 0, none⟩) (by first | (rw [add_block]; exact hn220_0) | (show (Addr.add _ _).block ≠ _; rw [add_block]; exact hn220_0) | exact hn220_0) (.int .i8 ((rd_T81 l0_1 x27_1).f0))).trans hx220_0
    replace hx220_0 := (cell_far (p := ⟨gb218, 1, none⟩) (by first | (rw [add_block]; exact hn220_1) | (show (Addr.add _ _).block ≠ _; rw [add_block]; exact hn220_1) | exact hn220_1) (.int .i16 ((rd_T81 l0_1 x27_1).f1))).trans hx220_0
    replace hx220_0 := (cell_far (p := ⟨gb218, 2, none⟩) (by first | (rw [add_block]; exact hn220_2) | (show (Addr.add _ _).block ≠ _; rw [add_block]; exact hn220_2) | exact hn220_2) (.int .i16 ((rd_T81 l0_1 x27_1).f2))).trans hx220_0
    (try have hy220_0 := fun (n_ : Nat) => (show (((((w18.drewN n_).setCell ⟨gb218, 0, none⟩ (.int .i8 ((rd_T81 l0_1 x27_1).f0))).setCell ⟨gb218, 1, none⟩ (.int .i16 ((rd_T81 l0_1 x27_1).f1))).setCell ⟨gb218, 2, none⟩ (.int .i16 ((rd_T81 l0_1 x27_1).f2)))).cell? _ = some _ from hx220_0))
    clear hn220_0
    clear hn220_1
    clear hn220_2
    replace p220 := eq_true p220
    replace q220 := eq_true q220
    go_wp2
    repeat (go_quiet (fail); try go_wp2)
    go_meet
    case rel => exact ⟨_, (((((⟨#[40]⟩ : ByteArray) ++ (rdOf ByteArray.empty x6_1 ((rd_T81 l0_1 x27_1).f1))) ++ (⟨#[124]⟩ : ByteArray)) ++ (rdOf ByteArray.empty x6_1 ((rd_T81 l0_1 x27_1).f2))) ++ (⟨#[41]⟩ : ByteArray)), zi, H', ⟨by have := HK1.out; first | omega | exact Nat.le_refl _⟩, ⟨Kd.R_mono (zs HO_6 BK218).out (fun _ hk => trivial)⟩, zf BK211 NB211_218, ⟨zp BK218⟩, zba⟩
   rw [if_neg c28] at H
   have c28b0 : (((rd_T81 l0_1 x27_1).f0) == 2) = false := beq_eq_false_iff_ne.mpr c28
   have c28b1 : (((rd_T81 l0_1 x27_1).f0) != 2) = true := bne_iff_ne.mpr c28
   (first | rw [c28b0] | (simp only [i64_w, i32_w]; rw [c28b0]) | (have h_ := c28b0; simp only [bne] at h_; rw [h_]) | skip)
   have HC40 := Aside0.mk H
   clear H
   go_upto_if 57 with (fail)
   repeat (go_quiet (fail); go_upto_if 57 with (fail))
   go_cut [9, 57] (fun v9 v57 wc => ∃ (kq : Nat) (x9_39 : ByteArray), v9 = .string x9_39 ∧ Aside0 (impl_FormulaOf.j1 kq a1 x6_1 x9_39 l0_1 (l0_1.length : Int) x27_1 a0_0 l0_1 l0_2 = some (r1, r2)) ∧ Aside0 (kq ≤ k1) ∧ Aside0 (Kd.R Kd.string 9 wc w.heap.size (fun _ => True) u6 x6_1) ∧ Aside0 (wc.heap[gb211]? = some (.cells #[.int .i8 a0_0, (.slice (some ad217) l0_1.length c0_1), (.slice A0_2 l0_2.length c0_2)] 31 (0, 0))) ∧ Aside0 (wc.heap[gb218]? = some (.cells #[.int .i8 ((rd_T81 l0_1 x27_1).f0), .int .i16 ((rd_T81 l0_1 x27_1).f1), .int .i16 ((rd_T81 l0_1 x27_1).f2)] 81 (0, 0))) ∧ Aside0 (Below w.heap.size w wc))
   case first =>
    have H := HC40.out
    clear HC40
    by_cases c41 : ((rd_T81 l0_1 x27_1).f0) = 3
    rotate_left
    ·rw [if_neg c41] at H
     have c41b0 : (((rd_T81 l0_1 x27_1).f0) == 3) = false := beq_eq_false_iff_ne.mpr c41
     have c41b1 : (((rd_T81 l0_1 x27_1).f0) != 3) = true := bne_iff_ne.mpr c41
     (first | rw [c41b0] | (simp only [i64_w, i32_w]; rw [c41b0]) | (have h_ := c41b0; simp only [bne] at h_; rw [h_]) | skip)
     have H' := Aside0.mk H
     clear H
     go_wp2
     repeat (go_quiet (fail); try go_wp2)
     go_meet
     case rel => exact ⟨_, ((⟨#[49]⟩ : ByteArray)), zi, H', ⟨by have := HK1.out; first | omega | exact Nat.le_refl _⟩, ⟨Kd.R_mono (zs HO_6 BK218).out (fun _ hk => trivial)⟩, zf BK211 NB211_218, ⟨zp BK218⟩, zba⟩
    rw [if_pos c41] at H
    have c41b0 : (((rd_T81 l0_1 x27_1).f0) == 3) = true := beq_iff_eq.mpr c41
    have c41b1 : (((rd_T81 l0_1 x27_1).f0) != 3) = false := bne_eq_false_iff_eq.mpr c41
    clear c41
    (first | rw [c41b0] | (simp only [i64_w, i32_w]; rw [c41b0]) | (have h_ := c41b0; simp only [bne] at h_; rw [h_]) | skip)
    by_cases c42 : 0 ≤ ((rd_T81 l0_1 x27_1).f1)
    rotate_left
    ·rw [if_neg c42] at H
     exact absurd H (by simp)
    rw [if_pos c42] at H
    have c42b0 : decide (0 ≤ ((rd_T81 l0_1 x27_1).f1)) = true := decide_eq_true c42
    clear c42
    by_cases c43 : ((rd_T81 l0_1 x27_1).f1) < (x6_1.length : Int)
    rotate_left
    ·rw [if_neg c43] at H
     exact absurd H (by simp)
    rw [if_pos c43] at H
    have c43b0 : decide (((rd_T81 l0_1 x27_1).f1) < (x6_1.length : Int)) = true := decide_eq_true c43
    clear c43
    by_cases c44 : 1 + (rdOf ByteArray.empty x6_1 ((rd_T81 l0_1 x27_1).f1)).size ≤ 9223372036854775807
    rotate_left
    ·rw [if_neg c44] at H
     exact absurd H (by simp)
    rw [if_pos c44] at H
    have c44b0 := eq_true c44
    have c44b1 : decide (1 + (rdOf ByteArray.empty x6_1 ((rd_T81 l0_1 x27_1).f1)).size ≤ 9223372036854775807) = true := decide_eq_true c44
    try have c44b2 : (9223372036854775807 < 1 + (rdOf ByteArray.empty x6_1 ((rd_T81 l0_1 x27_1).f1)).size) = False := eq_false (Nat.not_lt.2 c44)
    by_cases c45 : 1 + (rdOf ByteArray.empty x6_1 ((rd_T81 l0_1 x27_1).f1)).size + 1 ≤ 9223372036854775807
    rotate_left
    ·rw [if_neg c45] at H
     exact absurd H (by simp)
    rw [if_pos c45] at H
    have c45b0 := eq_true c45
    have c45b1 : decide (1 + (rdOf ByteArray.empty x6_1 ((rd_T81 l0_1 x27_1).f1)).size + 1 ≤ 9223372036854775807) = true := decide_eq_true c45
    try have c45b2 : (9223372036854775807 < 1 + (rdOf ByteArray.empty x6_1 ((rd_T81 l0_1 x27_1).f1)).size + 1) = False := eq_false (Nat.not_lt.2 c45)
    by_cases c46 : 0 ≤ ((rd_T81 l0_1 x27_1).f2)
    rotate_left
    ·rw [if_neg c46] at H
     exact absurd H (by simp)
    rw [if_pos c46] at H
    have c46b0 : decide (0 ≤ ((rd_T81 l0_1 x27_1).f2)) = true := decide_eq_true c46
    clear c46
    by_cases c47 : ((rd_T81 l0_1 x27_1).f2) < (x6_1.length : Int)
    rotate_left
    ·rw [if_neg c47] at H
     exact absurd H (by simp)
    rw [if_pos c47] at H
    have c47b0 : decide (((rd_T81 l0_1 x27_1).f2) < (x6_1.length : Int)) = true := decide_eq_true c47
    clear c47
    by_cases c48 : 1 + (rdOf ByteArray.empty x6_1 ((rd_T81 l0_1 x27_1).f1)).size + 1 + (rdOf ByteArray.empty x6_1 ((rd_T81 l0_1 x27_1).f2)).size ≤ 9223372036854775807
    rotate_left
    ·rw [if_neg c48] at H
     exact absurd H (by simp)
    rw [if_pos c48] at H
    have c48b0 := eq_true c48
    have c48b1 : decide (1 + (rdOf ByteArray.empty x6_1 ((rd_T81 l0_1 x27_1).f1)).size + 1 + (rdOf ByteArray.empty x6_1 ((rd_T81 l0_1 x27_1).f2)).size ≤ 9223372036854775807) = true := decide_eq_true c48
    try have c48b2 : (9223372036854775807 < 1 + (rdOf ByteArray.empty x6_1 ((rd_T81 l0_1 x27_1).f1)).size + 1 + (rdOf ByteArray.empty x6_1 ((rd_T81 l0_1 x27_1).f2)).size) = False := eq_false (Nat.not_lt.2 c48)
    by_cases c49 : 1 + (rdOf ByteArray.empty x6_1 ((rd_T81 l0_1 x27_1).f1)).size + 1 + (rdOf ByteArray.empty x6_1 ((rd_T81 l0_1 x27_1).f2)).size + 1 ≤ 9223372036854775807
    rotate_left
    ·rw [if_neg c49] at H
     exact absurd H (by simp)
    rw [if_pos c49] at H
    have c49b0 := eq_true c49
    have c49b1 : decide (1 + (rdOf ByteArray.empty x6_1 ((rd_T81 l0_1 x27_1).f1)).size + 1 + (rdOf ByteArray.empty x6_1 ((rd_T81 l0_1 x27_1).f2)).size + 1 ≤ 9223372036854775807) = true := decide_eq_true c49
    try have c49b2 : (9223372036854775807 < 1 + (rdOf ByteArray.empty x6_1 ((rd_T81 l0_1 x27_1).f1)).size + 1 + (rdOf ByteArray.empty x6_1 ((rd_T81 l0_1 x27_1).f2)).size + 1) = False := eq_false (Nat.not_lt.2 c49)
    have H' := Aside0.mk H
    clear H
    have hnb50 := NB218_211.out
    have hnc50 := NB211_218.out
    obtain ⟨z51_0, z51_1, z51_2, y51_0, y51_1, y51_2⟩ := zB3 BK218
    obtain ⟨Ao52, co52, eo52⟩ := Kd.R_slice HO_6.out
    subst eo52
    have p221 : 0 ≤ (((rd_T81 l0_1 x27_1).f1) : Int) := of_decide_eq_true zA
    have q221 : ((rd_T81 l0_1 x27_1).f1) < (x6_1.length : Int) := of_decide_eq_true zA
    obtain ⟨ad221, e221, hx221_0⟩ := Kd.at_string (Kd.R_reads' HO_6.out).2.2 ((rd_T81 l0_1 x27_1).f1) p221 q221
    cases e221
    have hn221_0 : ad221.block ≠ gb218 := Kd.own_blk (Kd.R_ne HO_6.out BK218.out (by decide))
    have hn221_1 : ad221.block ≠ gb218 := Kd.own_blk (Kd.R_ne HO_6.out BK218.out (by decide))
    have hn221_2 : ad221.block ≠ gb218 := Kd.own_blk (Kd.R_ne HO_6.out BK218.out (by decide))
    replace hx221_0 := (cell_far (p := ⟨gb218, 0, none⟩) (by first | (rw [add_block]; exact hn221_0) | (show (Addr.add _ _).block ≠ _; rw [add_block]; exact hn221_0) | exact hn221_0) (.int .i8 ((rd_T81 l0_1 x27_1).f0))).trans hx221_0
    replace hx221_0 := (cell_far (p := ⟨gb218, 1, none⟩) (by first | (rw [add_block]; exact hn221_1) | (show (Addr.add _ _).block ≠ _; rw [add_block]; exact hn221_1) | exact hn221_1) (.int .i16 ((rd_T81 l0_1 x27_1).f1))).trans hx221_0
    replace hx221_0 := (cell_far (p := ⟨gb218, 2, none⟩) (by first | (rw [add_block]; exact hn221_2) | (show (Addr.add _ _).block ≠ _; rw [add_block]; exact hn221_2) | exact hn221_2) (.int .i16 ((rd_T81 l0_1 x27_1).f2))).trans hx221_0
    (try have hy221_0 := fun (n_ : Nat) => (show (((((w18.drewN n_).setCell ⟨gb218, 0, none⟩ (.int .i8 ((rd_T81 l0_1 x27_1).f0))).setCell ⟨gb218, 1, none⟩ (.int .i16 ((rd_T81 l0_1 x27_1).f1))).setCell ⟨gb218, 2, none⟩ (.int .i16 ((rd_T81 l0_1 x27_1).f2)))).cell? _ = some _ from hx221_0))
    clear hn221_0
    clear hn221_1
    clear hn221_2
    replace p221 := eq_true p221
    replace q221 := eq_true q221
    have p222 : 0 ≤ (((rd_T81 l0_1 x27_1).f2) : Int) := of_decide_eq_true zA
    have q222 : ((rd_T81 l0_1 x27_1).f2) < (x6_1.length : Int) := of_decide_eq_true zA
    obtain ⟨ad222, e222, hx222_0⟩ := Kd.at_string (Kd.R_reads' HO_6.out).2.2 ((rd_T81 l0_1 x27_1).f2) p222 q222
    obtain rfl : ad221 = ad222 := (by injection e222)
    have hn222_0 : ad221.block ≠ gb218 := Kd.own_blk (Kd.R_ne HO_6.out BK218.out (by decide))
    have hn222_1 : ad221.block ≠ gb218 := Kd.own_blk (Kd.R_ne HO_6.out BK218.out (by decide))
    have hn222_2 : ad221.block ≠ gb218 := Kd.own_blk (Kd.R_ne HO_6.out BK218.out (by decide))
    replace hx222_0 := (cell_far (p := ⟨gb218, 0, none⟩) (by first | (rw [add_block]; exact hn222_0) | (show (Addr.add _ _).block ≠ _; rw [add_block]; exact hn222_0) | exact hn222_0) (.int .i8 ((rd_T81 l0_1 x27_1).f0))).trans hx222_0
    replace hx222_0 := (cell_far (p := ⟨gb218, 1, none⟩) (by first | (rw [add_block]; exact hn222_1) | (show (Addr.add _ _).block ≠ _; rw [add_block]; exact hn222_1) | exact hn222_1) (.int .i16 ((rd_T81 l0_1 x27_1).f1))).trans hx222_0
    replace hx222_0 := (cell_far (p := ⟨gb218, 2, none⟩) (by first | (rw [add_block]; exact hn222_2) | (show (Addr.add _ _).block ≠ _; rw [add_block]; exact hn222_2) | exact hn222_2) (.int .i16 ((rd_T81 l0_1 x27_1).f2))).trans hx222_0
    (try have hy222_0 := fun (n_ : Nat) => (show (((((w18.drewN n_).setCell ⟨gb218, 0, none⟩ (.int .i8 ((rd_T81 l0_1 x27_1).f0))).setCell ⟨gb218, 1, none⟩ (.int .i16 ((rd_T81 l0_1 x27_1).f1))).setCell ⟨gb218, 2, none⟩ (.int .i16 ((rd_T81 l0_1 x27_1).f2)))).cell? _ = some _ from hx222_0))
    clear hn222_0
    clear hn222_1
    clear hn222_2
    replace p222 := eq_true p222
    replace q222 := eq_true q222
    go_wp2
    repeat (go_quiet (fail); try go_wp2)
    go_meet
    case rel => exact ⟨_, (((((⟨#[40]⟩ : ByteArray) ++ (rdOf ByteArray.empty x6_1 ((rd_T81 l0_1 x27_1).f1))) ++ (⟨#[45]⟩ : ByteArray)) ++ (rdOf ByteArray.empty x6_1 ((rd_T81 l0_1 x27_1).f2))) ++ (⟨#[41]⟩ : ByteArray)), zi, H', ⟨by have := HK1.out; first | omega | exact Nat.le_refl _⟩, ⟨Kd.R_mono (zs HO_6 BK218).out (fun _ hk => trivial)⟩, zf BK211 NB211_218, ⟨zp BK218⟩, zba⟩
   clear HC40
   try clear c1
   try clear c2
   try clear p2
   try clear q2
   try clear hx2
   try clear c3
   try clear c4
   try clear c5
   try clear c6
   try clear p6
   try clear c14
   try clear c14b0
   try clear c15
   try clear c15b0
   try clear c16
   try clear c16b0
   try clear c19
   try clear c21
   try clear c21b0
   try clear c21b1
   try clear p21
   try clear q21
   try clear hx21
   try clear c22
   try clear c22b0
   try clear c22b1
   try clear p22
   try clear q22
   try clear hx22
   try clear c23
   try clear c23b0
   try clear c23b1
   try clear c24
   try clear c24b0
   try clear c24b1
   try clear c25
   try clear c28
   try clear c28b0
   try clear c28b1
   try clear c29
   try clear c29b0
   try clear c30
   try clear c30b0
   try clear c31
   try clear c31b0
   try clear c31b1
   try clear c31b2
   try clear c32
   try clear c32b0
   try clear c32b1
   try clear c32b2
   try clear c33
   try clear c33b0
   try clear c34
   try clear c34b0
   try clear c35
   try clear c35b0
   try clear c35b1
   try clear c35b2
   try clear c36
   try clear c36b0
   try clear c36b1
   try clear c36b2
   try clear c37
   try clear c41
   try clear c41b0
   try clear c41b1
   try clear c42
   try clear c42b0
   try clear c43
   try clear c43b0
   try clear c44
   try clear c44b0
   try clear c44b1
   try clear c44b2
   try clear c45
   try clear c45b0
   try clear c45b1
   try clear c45b2
   try clear c46
   try clear c46b0
   try clear c47
   try clear c47b0
   try clear c48
   try clear c48b0
   try clear c48b1
   try clear c48b2
   try clear c49
   try clear c49b0
   try clear c49b1
   try clear c49b2
   try clear c50
   try clear z10_0 z10_1 z10_2
   try clear z13_0 z13_1 z13_2
   try clear z20_0 z20_1 z20_2
   try clear z26_0 z26_1 z26_2
   try clear z38_0 z38_1 z38_2
   try clear z51_0 z51_1 z51_2
   try clear z8_0 z8_1 z8_2
   try clear y10_0
   try clear y10_1
   try clear y10_2
   try clear y13_0
   try clear y13_1
   try clear y13_2
   try clear y20_0
   try clear y20_1
   try clear y20_2
   try clear y26_0
   try clear y26_1
   try clear y26_2
   try clear y38_0
   try clear y38_1
   try clear y38_2
   try clear y51_0
   try clear y51_1
   try clear y51_2
   try clear y8_0
   try clear y8_1
   try clear y8_2
   try clear hx217_0
   try clear hx217_1
   try clear hx217_2
   try clear hx219_0
   try clear hx220_0
   try clear hx221_0
   try clear hx222_0
   try clear p2
   try clear p217
   try clear p219
   try clear p220
   try clear p221
   try clear p222
   try clear p6
   try clear q217
   try clear q219
   try clear q220
   try clear q221
   try clear q222
   obtain ⟨kq, x9_39, rfl, HA, HJ39, HO_6, BK211, BK218, HB⟩ := hcut
   cases kq with
   | zero => exact absurd HA.out (by simp [impl_FormulaOf.j1])
   | succ kj39 => ?_
   have H := HA.out
   clear HA
   simp only [impl_FormulaOf.j1] at H
   have H' := Aside0.mk H
   clear H
   go_wp2
   repeat (go_quiet (fail); try go_wp2)
   go_meet
   case rel => exact ⟨_, (x9_39), zi, H', ⟨by have := HK1.out; have := HJ39.out; first | omega | exact Nat.le_refl _⟩, ze HO_6, zh BK211, zh BK218, zba⟩
  clear HC27
  try clear c1
  try clear c2
  try clear p2
  try clear q2
  try clear hx2
  try clear c3
  try clear c4
  try clear c5
  try clear c6
  try clear p6
  try clear c14
  try clear c14b0
  try clear c15
  try clear c15b0
  try clear c16
  try clear c16b0
  try clear c19
  try clear c21
  try clear c21b0
  try clear c21b1
  try clear p21
  try clear q21
  try clear hx21
  try clear c22
  try clear c22b0
  try clear c22b1
  try clear p22
  try clear q22
  try clear hx22
  try clear c23
  try clear c23b0
  try clear c23b1
  try clear c24
  try clear c24b0
  try clear c24b1
  try clear c25
  try clear c28
  try clear c28b0
  try clear c28b1
  try clear c29
  try clear c29b0
  try clear c30
  try clear c30b0
  try clear c31
  try clear c31b0
  try clear c31b1
  try clear c31b2
  try clear c32
  try clear c32b0
  try clear c32b1
  try clear c32b2
  try clear c33
  try clear c33b0
  try clear c34
  try clear c34b0
  try clear c35
  try clear c35b0
  try clear c35b1
  try clear c35b2
  try clear c36
  try clear c36b0
  try clear c36b1
  try clear c36b2
  try clear c37
  try clear c41
  try clear c41b0
  try clear c41b1
  try clear c42
  try clear c42b0
  try clear c43
  try clear c43b0
  try clear c44
  try clear c44b0
  try clear c44b1
  try clear c44b2
  try clear c45
  try clear c45b0
  try clear c45b1
  try clear c45b2
  try clear c46
  try clear c46b0
  try clear c47
  try clear c47b0
  try clear c48
  try clear c48b0
  try clear c48b1
  try clear c48b2
  try clear c49
  try clear c49b0
  try clear c49b1
  try clear c49b2
  try clear c50
  try clear z10_0 z10_1 z10_2
  try clear z13_0 z13_1 z13_2
  try clear z20_0 z20_1 z20_2
  try clear z26_0 z26_1 z26_2
  try clear z38_0 z38_1 z38_2
  try clear z51_0 z51_1 z51_2
  try clear z8_0 z8_1 z8_2
  try clear y10_0
  try clear y10_1
  try clear y10_2
  try clear y13_0
  try clear y13_1
  try clear y13_2
  try clear y20_0
  try clear y20_1
  try clear y20_2
  try clear y26_0
  try clear y26_1
  try clear y26_2
  try clear y38_0
  try clear y38_1
  try clear y38_2
  try clear y51_0
  try clear y51_1
  try clear y51_2
  try clear y8_0
  try clear y8_1
  try clear y8_2
  try clear hx217_0
  try clear hx217_1
  try clear hx217_2
  try clear hx219_0
  try clear hx220_0
  try clear hx221_0
  try clear hx222_0
  try clear p2
  try clear p21
  try clear p217
  try clear p219
  try clear p22
  try clear p220
  try clear p221
  try clear p222
  try clear p6
  try clear q2
  try clear q21
  try clear q217
  try clear q219
  try clear q22
  try clear q220
  try clear q221
  try clear q222
  obtain ⟨kq, x9_26, rfl, HA, HJ26, HO_6, BK211, BK218, HB⟩ := hcut
  cases kq with
  | zero => exact absurd HA.out (by simp [impl_FormulaOf.j2])
  | succ kj26 => ?_
  have H := HA.out
  clear HA
  simp only [impl_FormulaOf.j2] at H
  have H' := Aside0.mk H
  clear H
  go_wp2
  repeat (go_quiet (fail); try go_wp2)
  go_meet
  case rel => exact ⟨_, (x9_26), zi, H', ⟨by have := HK1.out; have := HJ26.out; first | omega | exact Nat.le_refl _⟩, ze HO_6, zh BK211, zh BK218, zba⟩
 clear HC17
 try clear c1
 try clear c2
 try clear p2
 try clear q2
 try clear hx2
 try clear c3
 try clear c4
 try clear c5
 try clear c6
 try clear p6
 try clear c14
 try clear c14b0
 try clear c15
 try clear c15b0
 try clear c16
 try clear c16b0
 try clear c19
 try clear c21
 try clear c21b0
 try clear c21b1
 try clear p21
 try clear q21
 try clear hx21
 try clear c22
 try clear c22b0
 try clear c22b1
 try clear p22
 try clear q22
 try clear hx22
 try clear c23
 try clear c23b0
 try clear c23b1
 try clear c24
 try clear c24b0
 try clear c24b1
 try clear c25
 try clear c28
 try clear c28b0
 try clear c28b1
 try clear c29
 try clear c29b0
 try clear c30
 try clear c30b0
 try clear c31
 try clear c31b0
 try clear c31b1
 try clear c31b2
 try clear c32
 try clear c32b0
 try clear c32b1
 try clear c32b2
 try clear c33
 try clear c33b0
 try clear c34
 try clear c34b0
 try clear c35
 try clear c35b0
 try clear c35b1
 try clear c35b2
 try clear c36
 try clear c36b0
 try clear c36b1
 try clear c36b2
 try clear c37
 try clear c41
 try clear c41b0
 try clear c41b1
 try clear c42
 try clear c42b0
 try clear c43
 try clear c43b0
 try clear c44
 try clear c44b0
 try clear c44b1
 try clear c44b2
 try clear c45
 try clear c45b0
 try clear c45b1
 try clear c45b2
 try clear c46
 try clear c46b0
 try clear c47
 try clear c47b0
 try clear c48
 try clear c48b0
 try clear c48b1
 try clear c48b2
 try clear c49
 try clear c49b0
 try clear c49b1
 try clear c49b2
 try clear c50
 try clear z10_0 z10_1 z10_2
 try clear z13_0 z13_1 z13_2
 try clear z20_0 z20_1 z20_2
 try clear z26_0 z26_1 z26_2
 try clear z38_0 z38_1 z38_2
 try clear z51_0 z51_1 z51_2
 try clear z8_0 z8_1 z8_2
 try clear y10_0
 try clear y10_1
 try clear y10_2
 try clear y13_0
 try clear y13_1
 try clear y13_2
 try clear y20_0
 try clear y20_1
 try clear y20_2
 try clear y26_0
 try clear y26_1
 try clear y26_2
 try clear y38_0
 try clear y38_1
 try clear y38_2
 try clear y51_0
 try clear y51_1
 try clear y51_2
 try clear y8_0
 try clear y8_1
 try clear y8_2
 try clear hx217_0
 try clear hx217_1
 try clear hx217_2
 try clear hx219_0
 try clear hx220_0
 try clear hx221_0
 try clear hx222_0
 try clear p2
 try clear p21
 try clear p217
 try clear p219
 try clear p22
 try clear p220
 try clear p221
 try clear p222
 try clear p6
 try clear q2
 try clear q21
 try clear q217
 try clear q219
 try clear q22
 try clear q220
 try clear q221
 try clear q222
 obtain ⟨kq, x9_16, rfl, HA, HJ16, HO_6, BK211, BK218, HB⟩ := hcut
 cases kq with
 | zero => exact absurd HA.out (by simp [impl_FormulaOf.j3])
 | succ kj16 => ?_
 have H := HA.out
 clear HA
 simp only [impl_FormulaOf.j3] at H
 obtain ⟨ji53, hji53⟩ : ∃ j_ : Int, (mn (x9_16.size : Int) 201) = j_ := ⟨_, rfl⟩
 replace H : (if 0 ≤ (ji53) then (if (ji53) ≤ (x9_16.size : Int) then (if x6_1.length < 8796093022208 then (impl_FormulaOf.l0 kj16 a1 (x6_1 ++ [x9_16.extract 0 ((ji53) : Int).toNat]) l0_1 (l0_1.length : Int) (wrap64 (x27_1 + 1)) a0_0 l0_1 l0_2) else (none)) else (none)) else (none)) = some (r1, r2) := by first | (rw [hji53] at H; exact H) | (simp only [hji53] at H ⊢; exact H)
 have hji53_ : (if 201 < (x9_16.size : Int) then 201 else (x9_16.size : Int)) = ji53 := hji53
 by_cases c54 : 0 ≤ (ji53)
 rotate_left
 ·rw [if_neg c54] at H
  exact absurd H (by simp)
 rw [if_pos c54] at H
 have c54b0 := eq_true c54
 have c54b1 : decide (0 ≤ (ji53)) = true := decide_eq_true c54
 clear c54
 by_cases c55 : (ji53) ≤ (x9_16.size : Int)
 rotate_left
 ·rw [if_neg c55] at H
  exact absurd H (by simp)
 rw [if_pos c55] at H
 have c55b0 := eq_true c55
 have c55b1 : decide ((ji53) ≤ (x9_16.size : Int)) = true := decide_eq_true c55
 clear c55
 by_cases c56 : x6_1.length < 8796093022208
 rotate_left
 ·rw [if_neg c56] at H
  exact absurd H (by simp)
 rw [if_pos c56] at H
 have LMc56 := Aside0.mk c56
 clear c56
 obtain ⟨y223, hy223⟩ : ∃ y_ : List ByteArray, y_ = (x6_1 ++ [x9_16.extract 0 ((ji53) : Int).toNat]) := ⟨_, rfl⟩
 replace H : (impl_FormulaOf.l0 kj16 a1 y223 l0_1 (l0_1.length : Int) (wrap64 (x27_1 + 1)) a0_0 l0_1 l0_2) = some (r1, r2) := by first | (rw [hy223]; with_reducible exact H) | (have H2_ := (Option.bind_some _ _).symm.trans H; rw [hy223]; with_reducible exact H2_) | (have H2_ := (Option.bind_some _ _).symm.trans H; with_reducible exact H2_) | with_reducible exact H | (rw [hy223]; exact H) | exact H
 have Ny223 := Aside0.mk hy223
 clear hy223
 have H' := Aside0.mk H
 clear H
 go_wp2_with (first | ((with_reducible refine gate_builtin (b := .append) (xs := #[.tmp 73, .tmp 79]) rfl ?_); at_builtin; refine Kd.R_append Kd.string (w0 := w) w.heap.size rfl (.tmp 73) (.tmp 79) 95 9 (.string ⟨#[]⟩) 16 rfl Try.underlying95 info9 rfl (by decide) (by omega) u6 x6_1 (x9_16.extract 0 ((ji53) : Int).toNat) [.string (x9_16.extract 0 ((ji53) : Int).toNat)] (fun _ => True) (fun _ => False) rfl rfl ?aP (fun _ hk => hk.elim) ?aF ?aO ?aB ?aS ?aL ?_; (case aP => exact rfl); (case aB => exact zbo); (case aF => exact (fun _ _ => trivial)); (case aO => exact (ze HO_6).out); (case aS => exact (zz HB)); (case aL => have := LMc56.out; omega); intro v224 w57 ho hb hg hat; rw [← Ny223.out] at ho; have n_ : _ ∧ _ ∧ _ ∧ _ := ⟨Aside0.mk (blk_grown (g := gb211) (o := .cells #[.int .i8 a0_0, .slice (some ad217) l0_1.length c0_1, .slice A0_2 l0_2.length c0_2] 31 (0, 0)) (zh BK211).out hg (Kd.R_ne HO_6.out BK211.out (by decide))), Aside0.mk (blk_grown (g := gb218) (o := .cells #[.int .i8 ((rd_T81 l0_1 x27_1).f0), .int .i16 ((rd_T81 l0_1 x27_1).f1), .int .i16 ((rd_T81 l0_1 x27_1).f2)] 81 (0, 0)) (zh BK218).out hg (Kd.R_ne HO_6.out BK218.out (by decide))), Aside0.mk (hb), Aside0.mk (ho)⟩; clear BK211 BK218 HB HO_6; obtain ⟨BK211, BK218, HB, HO225⟩ := n_; clear ho hb hg hat) | go_quiet (fail))
 go_roundg kj16
 case measure => have := HK1.out; have := HJ16.out; omega
 case rel => exact ⟨(y223), (wrap64 (x27_1 + 1)), zi, H', ⟨by have := HK1.out; have := HJ16.out; omega⟩, ze HO225, zh BK211, zba⟩
end Go.Proofs.Ytmpmanfoiocfgaa.PFnExactFormulaOf
