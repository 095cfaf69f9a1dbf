-- WRITTEN by xprint.py, a program of this session's. Not trusted: Lean checks it.
import Derived.Test.YtdjhcnepndflmaaPFnExactNeverHitx0
import Derived.Test.YtdjhcnepndflmaaPFnExactNeverHitx8
import Derived.Test.YtdjhcnepndflmaaPFnExactNeverHitx9
import Derived.Test.YtdjhcnepndflmaaTFnExactNeverHita
namespace Go.Proofs.Ytdjhcnepndflmaa.PFnExactNeverHit
open Go.RowKit Go.Proofs.YtdjhcnepndflmaaW.PrintWords Go.Proofs.YtdjhcnepndflmaaW.PrintLast Go.Proofs.YtdjhcnepndflmaaW.PrintMore Go.Proofs.YtdjhcnepndflmaaX
attribute [local go_sem] max2_int min2_int max_two min_two max_three min_three max_four min_four   -- for this text's walks alone
set_option linter.unusedVariables false
set_option linter.unusedSimpArgs false

/-! ### impl_NeverHit: function 20 -/
/-- What a piece hits, as a row. -/
def nh_hrow (h : S102) : List Int := [h.f0, h.f1, h.f2, h.f3]
theorem nh_arr4 {w : World} {A : Option Addr} {n : Nat} {xs : List S102} (h : Kd.C k102 w A n xs) (i : Int) (h0 : 0 ≤ i) (h1 : i < n) : ∃ ad, A = some ad ∧ Kd.C (Kd.int .u8) w (some (ad.add (i.toNat * 4))) (nh_hrow (rd_T102 xs i)).length (nh_hrow (rd_T102 xs i)) := by
  obtain ⟨ad, c, e, _, hK, hc⟩ := Kd.C_get h z102 i h0 h1
  refine ⟨ad, e, rfl, by simp [nh_hrow], fun _ => ⟨_, rfl, fun j p hj => ?_⟩⟩
  obtain rfl := k102_open hK
  refine ⟨[.int .u8 p], rfl, rfl, fun q u hq => ?_⟩
  obtain ⟨rfl, rfl⟩ : q = 0 ∧ u = .int .u8 p := by
    cases q with
    | zero => exact ⟨rfl, (Option.some.inj hq).symm⟩
    | succ q => simp at hq
  have : ∀ u, ([Value.int .u8 (rd_T102 xs i).f0, .int .u8 (rd_T102 xs i).f1, .int .u8 (rd_T102 xs i).f2, .int .u8 (rd_T102 xs i).f3] : List Value)[j]? = some u → w.cell? ((ad.add (i.toNat * 4)).add j) = some u := fun u hu => by
    rw [add_add]
    exact hc j u hu
  rw [show j * (Kd.int IntKind.u8).sz + 0 = j from Nat.mul_one j]
  refine this _ ?_
  rcases j with _ | _ | _ | _ | j <;> first | (cases hj; rfl) | simp [nh_hrow] at hj
set_option maxHeartbeats 4000000 in
set_option maxRecDepth 100000 in
theorem nh_hitsEver_calls (k : Nat) (ad : Addr) (s : S99) (a1 a2 : Int) (r : Bool) (w : World) (hr0 : Kd.C k99 w (some ad) [s].length [s]) (h1 : 0 ≤ a1) (h2 : a1 < (s.f2.length : Int)) (h : slices_ContainsFunc__impl_stage_hitsEver_1.f k (nh_hrow (rd_T102 s.f2 a1)) [(⟨a2⟩ : S3)] = some r) :
    Calls Try.prog 63 #[.pointer (some ad), .int .i64 a1, .int .i64 a2] w fun e w' => e = .returned (.bool r) ∧ Below w.heap.size w w' := by
  obtain ⟨ad0, A0, c0, A1, c1, A2, c2, A3, c3, e0, hx0, hx1, hx2, hx3, l0, g0, l1, g1, l2, g2, l3, g3⟩ := at_T99 hr0 0 (Int.le_refl 0) (by simp)
  obtain rfl : ad = ad0 := by injection e0
  rw [z00, Nat.zero_mul, Addr.add_zero'] at hx2
  rw [show rd_T99 [s] 0 = s from rfl] at hx2 g2 l2
  obtain ⟨ad2, rfl, hC⟩ := nh_arr4 g2 a1 h1 h2
  have HC := Aside0.mk hC
  have H := Aside0.mk h
  have HB := Aside0.mk (Below.refl w.heap.size w)
  have d1 : decide (0 ≤ a1) = true := decide_eq_true h1
  have d2 : decide (a1 < (s.f2.length : Int)) = true := decide_eq_true h2
  replace h1 := eq_true h1
  replace h2 := eq_true h2
  clear hr0 hx0 hx1 hx3 l0 g0 l1 g1 g2 l3 g3 hC h
  go_enter Try.func63, Try.ntmps63
  go_wp2_with (first | ((with_reducible refine gate_dst (N := 5) rfl ?_); refine zbx 5 #[.int .i64 a2] 3 ?_; intro gb hg w3 hbox hb; subst hg; have n_ : _ ∧ _ := ⟨zbs hb, Aside0.mk hbox⟩; clear HB hbox; obtain ⟨HB, BK⟩ := n_; have hx2b := zc HB hx2) | ((with_reducible refine gate_callee (f := 69) rfl ?_); refine goesL_ (some 15) rfl rfl Try.func69 (by kernel_rfl) rfl #[.slice (some (ad2.add (a1.toNat * 4))) 4 4, .func (.func 70) #[] #[.pointer (some ⟨w.heap.size, 0, none⟩)]] rfl zm ?_; (refine (slices_ContainsFunc__impl_stage_hitsEver_1.calls k (some (ad2.add (a1.toNat * 4))) 4 (nh_hrow (rd_T102 s.f2 a1)) ⟨w.heap.size, 0, none⟩ [(⟨a2⟩ : S3)] r _ ?side1 ?side2 ?side3 H.out).mono ?_); (case side1 => exact zcc HB HC.out); (case side2 => exact Nat.le_refl 4); (case side3 => exact ro_of_blk (d := k3) (x := (⟨a2⟩ : S3)) (T := 3) (cs := #[.int .i64 a2]) BK.out (k3_mk _ (⟨a2⟩ : S3))); rintro e w4 ⟨rfl, ⟨nd_, rfl⟩⟩; refine ⟨_, rfl, ?_⟩))
  go_ret
  exact ⟨zv, zbo⟩
def nh_bs (b : S103) (j : Int) : Int := rd [b.f0, b.f1, b.f2, b.f3] j
def nh_hasB (c side : Int) : Bool := (Go.bits .and .u8 (shr .u8 c side) 1) == 1
def nh_opp (side : Int) : Int := Int.tmod (wrap64 (side + 2)) 4
/-- What the neighbour's row of hits says. -/
def nh_hv (s : S99) (i side : Int) : Bool := (slices_ContainsFunc__impl_stage_hitsEver_1.f 10 (nh_hrow (rd_T102 s.f2 i)) [(⟨side⟩ : S3)]).getD false
def nh_oneE (s : S99) (i : Int) (j : Int) : Bool := decide (nh_bs (rd_T103 s.f3 i) j ≥ 0) && (nh_hasB (rd s.f1 i) j && nh_hv s (nh_bs (rd_T103 s.f3 i) j) (nh_opp j))
/-- The last n sides. -/
def nh_hitR (s : S99) (i : Int) : Nat → Bool
  | 0 => false
  | n + 1 => nh_oneE s i ((3 - n : Nat) : Int) || nh_hitR s i n
def nh_FineE (s : S99) (i : Int) : Prop := ∀ j : Nat, j < 4 → nh_bs (rd_T103 s.f3 i) (j : Int) ≥ 0 → nh_bs (rd_T103 s.f3 i) (j : Int) < (s.f2.length : Int) ∧ (slices_ContainsFunc__impl_stage_hitsEver_1.f 10 (nh_hrow (rd_T102 s.f2 (nh_bs (rd_T103 s.f3 i) (j : Int)))) [(⟨nh_opp (j : Int)⟩ : S3)]).isSome = true
theorem nh_hitR_step (s : S99) (i : Int) (j : Nat) (h : j < 4) : nh_hitR s i (4 - j) = (nh_oneE s i (j : Int) || nh_hitR s i (4 - (j + 1))) := by
  obtain ⟨n, hn⟩ : ∃ n, 4 - j = n + 1 := ⟨3 - j, by omega⟩
  rw [hn, nh_hitR, show 4 - (j + 1) = n by omega, show 3 - n = j by omega]
theorem nh_hv_some {s : S99} {i side : Int} (h : (slices_ContainsFunc__impl_stage_hitsEver_1.f 10 (nh_hrow (rd_T102 s.f2 i)) [(⟨side⟩ : S3)]).isSome = true) : slices_ContainsFunc__impl_stage_hitsEver_1.f 10 (nh_hrow (rd_T102 s.f2 i)) [(⟨side⟩ : S3)] = some (nh_hv s i side) := by
  unfold nh_hv
  obtain ⟨v, nh_hv⟩ := Option.isSome_iff_exists.1 h
  rw [nh_hv]
  rfl
theorem nh_has_some (c : Int) (j : Nat) : impl_sides_has.f c (j : Int) = some (nh_hasB c (j : Int)) := if_pos (by omega)
theorem nh_meas4 {j : Nat} (h : j < 4) : 4 - (intOf (Value.int IntKind.i64 ((j + 1 : Nat) : Int))).toNat < 4 - (intOf (Value.int IntKind.i64 (j : Int))).toNat := by
  have e : ∀ x : Int, intOf (.int .i64 x) = x := fun _ => rfl
  rw [e, e]
  omega
set_option maxHeartbeats 8000000 in
set_option maxRecDepth 100000 in
theorem nh_hitEver_calls (ad : Addr) (s : S99) (i : Nat) (w : World) (hr0 : Kd.C k99 w (some ad) [s].length [s]) (hi1 : i < s.f1.length) (hi3 : i < s.f3.length) (hf : nh_FineE s (i : Int)) :
    Calls Try.prog 42 #[.pointer (some ad), .int .i64 (i : Int)] w fun e w' => e = .returned (.bool (nh_hitR s (i : Int) 4)) ∧ Below w.heap.size w w' := by
  have HR := Aside0.mk hr0
  obtain ⟨ad0, A0, c0, A1, c1, A2, c2, A3, c3, e0, hx0, hx1, hx2, hx3, l0, g0, l1, g1, l2, g2, l3, g3⟩ := at_T99 hr0 0 (Int.le_refl 0) (by simp)
  obtain rfl : ad = ad0 := by injection e0
  rw [z00, Nat.zero_mul, Addr.add_zero'] at hx1 hx3
  rw [show rd_T99 [s] 0 = s from rfl] at hx1 hx3 g1 g3 l1 l3
  obtain ⟨ad1, rfl, hy⟩ := Kd.at_int g1 (i : Int) (by omega) (by omega)
  obtain ⟨ad3, rfl, hz0, hz1, hz2, hz3⟩ := at_T103 g3 (i : Int) (by omega) (by omega)
  obtain ⟨b, hb⟩ : ∃ b, rd_T103 s.f3 (i : Int) = b := ⟨_, rfl⟩
  rw [hb] at hz0 hz1 hz2 hz3
  simp only [Int.toNat_natCast] at hy hz0 hz1 hz2 hz3
  have B := Aside0.mk hb
  have F := Aside0.mk hf
  have X1 := Aside0.mk hx1
  have Y := Aside0.mk hy
  have d0 : (0 ≤ (i : Int)) = True := eq_true (by omega)
  have d1 : ((i : Int) < (s.f1.length : Int)) = True := eq_true (by omega)
  have d3 : ((i : Int) < (s.f3.length : Int)) = True := eq_true (by omega)
  have d1n : (i < s.f1.length) = True := eq_true hi1
  have d3n : (i < s.f3.length) = True := eq_true hi3
  have HB := Aside0.mk (Below.refl w.heap.size w)
  have hu103 := Try.underlying103
  clear hr0 hx0 hx1 hx2 l0 g0 g1 l2 g2 g3 hy hb hf hi1 hi3
  go_enter Try.func42, Try.ntmps42
  go_wp2
  go_loopw [14] (fun v14 w' => ∃ (j : Nat), v14 = .int .i64 (j : Int) ∧ Aside0 (j ≤ 4) ∧ Aside0 (nh_hitR s (i : Int) 4 = nh_hitR s (i : Int) (4 - j)) ∧ Aside0 (Below w.heap.size w w')) (fun v14 _ => 4 - (intOf v14).toNat)
  case atStart => exact ⟨0, rfl, ⟨by omega⟩, ⟨rfl⟩, HB⟩
  case round =>
    clear HB hz0 hz1 hz2 hz3 hx3
    obtain ⟨j, rfl, HJ, HH, HB⟩ := hrel
    by_cases cj : j < 4
    · have cj0 : decide (j < 4) = true := decide_eq_true cj
      have cj1 : decide ((j : Int) < 4) = true := decide_eq_true (by omega)
      have CJ := Aside0.mk cj
      have ar : ∀ W_ : World, (Instr.index 103 (.agg #[.int .i64 b.f0, .int .i64 b.f1, .int .i64 b.f2, .int .i64 b.f3]) (.int .i64 (j : Int))).run Try.prog W_ = .ok (.int .i64 (nh_bs b (j : Int))) W_ := by
        intro W_
        have h_ : j = 0 ∨ j = 1 ∨ j = 2 ∨ j = 3 := by omega
        rcases h_ with h_ | h_ | h_ | h_ <;> (rw [h_]; first | rfl | kernel_rfl)
      clear cj
      have X1b := zc HB X1.out
      have Yb := zc HB Y.out
      have OE : nh_oneE s (i : Int) (j : Int) = (decide (nh_bs b (j : Int) ≥ 0) && (nh_hasB (rd s.f1 (i : Int)) (j : Int) && nh_hv s (nh_bs b (j : Int)) (nh_opp (j : Int)))) := by rw [← B.out]; rfl
      have HF := F.out j CJ.out
      rw [B.out] at HF
      have W64 : wrap64 ((j : Int) + 1) = ((j + 1 : Nat) : Int) := by have := CJ.out; unfold wrap64; omega
      have FW := Aside0.mk W64
      clear W64
      by_cases ck : nh_bs b (j : Int) ≥ 0
      · have ck0 : decide (nh_bs b (j : Int) ≥ 0) = true := decide_eq_true ck
        obtain ⟨hk1, hk2⟩ := HF ck
        have HK0 := Aside0.mk (show 0 ≤ nh_bs b (j : Int) from ck)
        have HK1 := Aside0.mk hk1
        have HVV := Aside0.mk (nh_hv_some hk2)
        rw [ck0, Bool.true_and] at OE
        have HSS := Aside0.mk (nh_has_some (rd s.f1 (i : Int)) j)
        obtain ⟨vh, eh⟩ : ∃ v, nh_hasB (rd s.f1 (i : Int)) (j : Int) = v := ⟨_, rfl⟩
        obtain ⟨vv, ev⟩ : ∃ v, nh_hv s (nh_bs b (j : Int)) (nh_opp (j : Int)) = v := ⟨_, rfl⟩
        rw [eh, ev] at OE
        have HS : Aside0 (impl_sides_has.f (rd s.f1 (i : Int)) (j : Int) = some vh) := ⟨eh ▸ HSS.out⟩
        have HV : Aside0 (slices_ContainsFunc__impl_stage_hitsEver_1.f 10 (nh_hrow (rd_T102 s.f2 (nh_bs b (j : Int)))) [(⟨nh_opp (j : Int)⟩ : S3)] = some vv) := ⟨ev ▸ HVV.out⟩
        have HO := Aside0.mk OE
        clear ck HF hk1 hk2 eh ev HSS HVV OE
        cases vh
        · go_wp2_with (first | (go_at_call 62; (with_reducible refine (impl_sides_has.calls (rd s.f1 (i : Int)) (j : Int) false _ HS.out).mono ?_); rintro e w4 ⟨rfl, ⟨nd_, rfl⟩⟩))
          go_roundw
          case rel => exact ⟨j + 1, congrArg (Value.int .i64) FW.out, ⟨CJ.out⟩, ⟨by rw [HH.out, nh_hitR_step s _ j CJ.out, HO.out]; rfl⟩, zl HB⟩
          case measure => rw [FW.out]; exact nh_meas4 CJ.out
        · cases vv
          · go_wp2_with (first | (go_at_call 62; (with_reducible refine (impl_sides_has.calls (rd s.f1 (i : Int)) (j : Int) true _ HS.out).mono ?_); rintro e w4 ⟨rfl, ⟨nd_, rfl⟩⟩) | (go_at_call 64; (with_reducible refine (impl_opposite.calls (j : Int) (nh_opp (j : Int)) _ rfl).mono ?_); rintro e w5 ⟨rfl, ⟨nd2_, rfl⟩⟩) | (go_at_call 63; (with_reducible refine (nh_hitsEver_calls 10 ad s (nh_bs b (j : Int)) (nh_opp (j : Int)) false _ (Kd.C_below HR.out (zl HB).out) HK0.out HK1.out HV.out).mono ?_); rintro e w6 ⟨rfl, hb6⟩; have n_ := zb HB hb6; clear HB hb6; have HB := n_; clear n_))
            go_roundw
            case rel => exact ⟨j + 1, congrArg (Value.int .i64) FW.out, ⟨CJ.out⟩, ⟨by rw [HH.out, nh_hitR_step s _ j CJ.out, HO.out]; rfl⟩, zl HB⟩
            case measure => rw [FW.out]; exact nh_meas4 CJ.out
          · go_wp2_with (first | (go_at_call 62; (with_reducible refine (impl_sides_has.calls (rd s.f1 (i : Int)) (j : Int) true _ HS.out).mono ?_); rintro e w4 ⟨rfl, ⟨nd_, rfl⟩⟩) | (go_at_call 64; (with_reducible refine (impl_opposite.calls (j : Int) (nh_opp (j : Int)) _ rfl).mono ?_); rintro e w5 ⟨rfl, ⟨nd2_, rfl⟩⟩) | (go_at_call 63; (with_reducible refine (nh_hitsEver_calls 10 ad s (nh_bs b (j : Int)) (nh_opp (j : Int)) true _ (Kd.C_below HR.out (zl HB).out) HK0.out HK1.out HV.out).mono ?_); rintro e w6 ⟨rfl, hb6⟩; have n_ := zb HB hb6; clear HB hb6; have HB := n_; clear n_))
            go_ret
            exact ⟨by rw [HH.out, nh_hitR_step s _ j CJ.out, HO.out]; rfl, zbo⟩
      · have ck0 : decide (nh_bs b (j : Int) ≥ 0) = false := decide_eq_false ck
        rw [ck0, Bool.false_and] at OE
        have HO := Aside0.mk OE
        clear ck HF OE
        go_wp2
        go_roundw
        case rel => exact ⟨j + 1, congrArg (Value.int .i64) FW.out, ⟨CJ.out⟩, ⟨by rw [HH.out, nh_hitR_step s _ j CJ.out, HO.out]; rfl⟩, zl HB⟩
        case measure => rw [FW.out]; exact nh_meas4 CJ.out
    · have cj0 : decide (j < 4) = false := decide_eq_false cj
      have cj1 : decide ((j : Int) < 4) = false := decide_eq_false (by omega)
      obtain rfl : j = 4 := by have := HJ.out; omega
      go_wp2
      go_ret
      exact ⟨by rw [HH.out]; rfl, zbo⟩
/-- The first pieces' cells with their places. -/
def nh_PL (l : List S62) : Nat → List ((Int × Int) × Int)
  | 0 => []
  | i + 1 => nh_PL l i ++ [(((l.getD i z62).f0.f0, (l.getD i z62).f0.f1), (i : Int))]
def nh_fl (p : S62) (s : Int) : Bool × Int := (impl_Piece_falls.f 10 p.f0.f0 p.f0.f1 p.f1 p.f2 p.f3 s).getD (false, 0)
def nh_so (s : Int) : Int := (impl_sidesOf.f 10 [s]).getD 0
def nh_nxc (p : S62) (s : Int) : Int × Int := (impl_Cell_next.f p.f0.f0 p.f0.f1 s).getD (0, 0)
def nh_fi (l : List S62) (c : Int × Int) : Int := (mfind (nh_PL l l.length) c.1 c.2).getD (-1)
/-- What the inner loop has made after j sides. -/
def nh_stp (l : List S62) (p : S62) : Nat → Int × List Int × List Int
  | 0 => (0, [0, 0, 0, 0], [0, 0, 0, 0])
  | j + 1 => ((if (nh_fl p (j : Int)).1 = true then Go.bits .or .u8 (nh_stp l p j).1 (nh_so (j : Int)) else (nh_stp l p j).1), (nh_stp l p j).2.1.set j (nh_fl p (j : Int)).2, (nh_stp l p j).2.2.set j (nh_fi l (nh_nxc p (j : Int))))
def nh_r102 (p : S62) : S102 := ⟨(nh_fl p 0).2, (nh_fl p 1).2, (nh_fl p 2).2, (nh_fl p 3).2⟩
def nh_r103 (l : List S62) (p : S62) : S103 := ⟨nh_fi l (nh_nxc p 0), nh_fi l (nh_nxc p 1), nh_fi l (nh_nxc p 2), nh_fi l (nh_nxc p 3)⟩
def nh_stageL (l : List S62) : S99 := ⟨l, l.map fun p => (nh_stp l p 4).1, l.map nh_r102, l.map (nh_r103 l)⟩
structure nh_Fine (l : List S62) : Prop where
  len : l.length ≤ 200
  apart : ∀ i, i < l.length → mfind (nh_PL l i) (l.getD i z62).f0.f0 (l.getD i z62).f0.f1 = none
  falls : ∀ i, i < l.length → ∀ j, j < 4 → (impl_Piece_falls.f 10 (l.getD i z62).f0.f0 (l.getD i z62).f0.f1 (l.getD i z62).f1 (l.getD i z62).f2 (l.getD i z62).f3 ((j : Nat) : Int)).isSome = true
theorem nh_so_some : ∀ j : Fin 4, impl_sidesOf.f 10 [(j.val : Int)] = some (nh_so (j.val : Int)) := by decide +kernel
theorem nh_nxc_some (p : S62) (j : Nat) (h : j < 4) : impl_Cell_next.f p.f0.f0 p.f0.f1 (j : Int) = some (nh_nxc p (j : Int)) := by
  have e : ∀ q, impl_Cell_next.f p.f0.f0 p.f0.f1 (j : Int) = some q → impl_Cell_next.f p.f0.f0 p.f0.f1 (j : Int) = some (nh_nxc p (j : Int)) := fun q hq => by
    unfold nh_nxc
    rw [hq]
    rfl
  exact e (IntKind.i8.wrap (p.f0.f0 + (rd [0, 1, 0, (-1)] (j : Int))), IntKind.i8.wrap (p.f0.f1 + (rd [(-1), 0, 1, 0] (j : Int)))) (by
    unfold impl_Cell_next.f
    rw [if_pos (by omega), if_pos (by omega)])
theorem nh_getS {α : Type} {a : Option α} {z : α} (h : a.isSome = true) : a = some (a.getD z) := by
  cases a
  · cases h
  · rfl
theorem nh_meas_n {n i : Nat} (h : i < n) : n - (intOf (Value.int IntKind.i64 ((i + 1 : Nat) : Int))).toNat < n - (intOf (Value.int IntKind.i64 (i : Int))).toNat := by
  have e : ∀ x : Int, intOf (.int .i64 x) = x := fun _ => rfl
  rw [e, e]
  omega
def nh_vI (v : Int) : Value := .int .i64 v
theorem nh_cellKeyI : CellKey Try.prog 34 22 := ⟨Try.underlying34, Try.underlying22, by kernel_rfl⟩
theorem nh_zeroInt (w : World) : (zeroValue 3).run Try.prog w = .ok (.int .i64 0) w := by kernel_rfl
theorem nh_numCell {w : World} {g T j : Nat} {k : IntKind} {xs : List Int} (H : w.heap[g]? = some (.cells (nums k xs).toArray T (0, 0))) (h : j < xs.length) : w.cell? ⟨g, j, none⟩ = some (.int k (xs.getD j 0)) ∧ w.frozen? ⟨g, j, none⟩ = false := by
  refine ⟨(blk_cell H j).trans ?_, blk_frozen H j⟩
  simp [nums, List.getElem?_eq_getElem h, List.getD_eq_getElem?_getD]
theorem nh_numPut {w : World} {g T j : Nat} {k : IntKind} {xs : List Int} (H : w.heap[g]? = some (.cells (nums k xs).toArray T (0, 0))) (v : Int) : (w.setCell ⟨g, j, none⟩ (.int k v)).heap[g]? = some (.cells (nums k (xs.set j v)).toArray T (0, 0)) := by
  refine blk_put H j _ ?_
  simp [nums, List.setIfInBounds_toArray, List.map_set]
theorem nh_stp_len (l : List S62) (p : S62) : ∀ j, (nh_stp l p j).2.1.length = 4 ∧ (nh_stp l p j).2.2.length = 4
  | 0 => ⟨rfl, rfl⟩
  | j + 1 => by
    have h := nh_stp_len l p j
    simp only [nh_stp, List.length_set]
    exact h
/-- The stage in the block gs, the places in the block gm. -/
structure nh_SG (w : World) (gs gm : Nat) (pc : Value) (vc vh vb : Value) (m : List ((Int × Int) × Int)) (W : World) : Prop where
  st : W.heap[gs]? = some (.cells #[pc, vc, vh, vb] 99 (0, 0))
  mp : ∃ es ck, W.heap[gm]? = some (.map es ck) ∧ ER nh_vI es m
  bl : Below w.heap.size w W
theorem nh_SG.below {w : World} {gs gm : Nat} {pc vc vh vb : Value} {m : List ((Int × Int) × Int)} {W W' : World} (h : nh_SG w gs gm pc vc vh vb m W) (hb : Below W.heap.size W W') : nh_SG w gs gm pc vc vh vb m W' :=
  ⟨blk_below h.st hb, let ⟨es, ck, a, b⟩ := h.mp; ⟨es, ck, blk_below a hb, b⟩, below_step h.bl hb⟩
theorem nh_bs101 (W : World) (c : Int) : (Instr.buildSlice 95 1 #[(0, .int .u8 c)]).run Try.prog W = .ok (.slice (some ⟨W.heap.size, 0, none⟩) 1 1) (W.alloc (.cells #[.int .u8 c] 101)) := by
  have hu95 := Try.underlying95
  first | (go_simp; done) | (go_simp; rfl)
theorem nh_bs102 (W : World) (a b c d : Int) : (Instr.buildSlice 96 1 #[(0, .agg #[.int .u8 a, .int .u8 b, .int .u8 c, .int .u8 d])]).run Try.prog W = .ok (.slice (some ⟨W.heap.size, 0, none⟩) 1 1) (W.alloc (.cells #[.int .u8 a, .int .u8 b, .int .u8 c, .int .u8 d] 102)) := by
  have hu96 := Try.underlying96
  have hu102 := Try.underlying102
  first | (go_simp; done) | (go_simp; rfl)
theorem nh_bs103 (W : World) (a b c d : Int) : (Instr.buildSlice 97 1 #[(0, .agg #[.int .i64 a, .int .i64 b, .int .i64 c, .int .i64 d])]).run Try.prog W = .ok (.slice (some ⟨W.heap.size, 0, none⟩) 1 1) (W.alloc (.cells #[.int .i64 a, .int .i64 b, .int .i64 c, .int .i64 d] 103)) := by
  have hu97 := Try.underlying97
  have hu103 := Try.underlying103
  first | (go_simp; done) | (go_simp; rfl)
theorem nh_info101 : (Try.prog.info? 101).map (fun i => (i.zero, i.size, i.bytes)) = some (some (.int .u8 0), 1, 1) := by kernel_rfl
theorem nh_info102 : (Try.prog.info? 102).map (fun i => (i.zero, i.size, i.bytes)) = some (some (.agg #[.int .u8 0, .int .u8 0, .int .u8 0, .int .u8 0]), 4, 4) := by kernel_rfl
theorem nh_info103 : (Try.prog.info? 103).map (fun i => (i.zero, i.size, i.bytes)) = some (some (.agg #[.int .i64 0, .int .i64 0, .int .i64 0, .int .i64 0]), 4, 32) := by kernel_rfl
/-- What stands through the statement: the stage, both arrays, the places. -/
structure nh_IV (w : World) (gs g10 g11 gm : Nat) (st c10 c11 : Array Value) (m : List ((Int × Int) × Int)) (W : World) : Prop where
  st : W.heap[gs]? = some (.cells st 99 (0, 0))
  b10 : W.heap[g10]? = some (.cells c10 102 (0, 0))
  b11 : W.heap[g11]? = some (.cells c11 103 (0, 0))
  mp : ∃ es ck, W.heap[gm]? = some (.map es ck) ∧ ER nh_vI es m
  bl : Below w.heap.size w W
/-- An own row beside them. -/
def nh_OR {α : Type} (d : Kd α) (e : Nat) (w : World) (g10 g11 : Nat) (v : Value) (xs : List α) (W : World) : Prop := Kd.R d e W w.heap.size (fun k => k ≠ g10 ∧ k ≠ g11) v xs
section
variable {α β : Type} {d : Kd α} {d' : Kd β} {e e' : Nat} {w W w1 : World} {gs g10 g11 gm : Nat} {st c10 c11 : Array Value} {m : List ((Int × Int) × Int)} {v u : Value} {xs : List α} {ys : List β}
theorem nh_IV.below (h : nh_IV w gs g10 g11 gm st c10 c11 m W) (hb : Below W.heap.size W w1) : nh_IV w gs g10 g11 gm st c10 c11 m w1 :=
  ⟨blk_below h.st hb, blk_below h.b10 hb, blk_below h.b11 hb, let ⟨es, ck, a, b⟩ := h.mp; ⟨es, ck, blk_below a hb, b⟩, below_step h.bl hb⟩
theorem nh_IV.grown (h : nh_IV w gs g10 g11 gm st c10 c11 m W) (ho : nh_OR d e w g10 g11 v xs W) (he : e ≠ 99) (hg : W.grownBy w1 v.ownBlock) (hb : Below w.heap.size w w1) : nh_IV w gs g10 g11 gm st c10 c11 m w1 := by
  refine ⟨blk_grown h.st hg (Kd.R_ne ho h.st he), blk_grown h.b10 hg fun e_ => (ho.1 _ e_.symm).1 rfl, blk_grown h.b11 hg fun e_ => (ho.1 _ e_.symm).2 rfl, ?_, hb⟩
  obtain ⟨es, ck, a, b⟩ := h.mp
  refine ⟨es, ck, blk_grown a hg fun e_ => ?_, b⟩
  obtain ⟨cells, hc⟩ := Kd.R_typed ho _ e_.symm
  rw [a] at hc
  cases hc
theorem nh_OR.below (h : nh_OR d e w g10 g11 v xs W) (hb : Below W.heap.size W w1) : nh_OR d e w g10 g11 v xs w1 := Kd.R_below h hb
theorem nh_OR.grown (h : nh_OR d' e' w g10 g11 u ys W) (ho : nh_OR d e w g10 g11 v xs W) (ht : ∀ q, q ∈ e' :: d'.E → q ≠ e) (hg : W.grownBy w1 v.ownBlock) : nh_OR d' e' w g10 g11 u ys w1 := Kd.R_over' h (Kd.R_typed ho) ht hg
end
section
variable {α : Type} {ops : Array Oper} {o : Oper} {a : Act} {K : Act → World → Prop} {Q : Exit → Act → World → Prop} {N : Option Tmp} {w W : World} {gs g10 g11 gm : Nat} {st c10 c11 : Array Value} {m : List ((Int × Int) × Int)}
theorem nh_wantedN (hg : o.guard = none) (l : Array Value) : Region.wanted o (yielded ops l) = true := by simp [Region.wanted, hg]
theorem nh_litE (d : Kd α) (e t : TypeId) (p : α) (cs : List Value) (x : Tmp) (u : Value) (hgd : o.guard = none) (hN : o.dst = N) (ho : o.op = .buildSlice t 1 #[(0, .tmp x)]) (hx : a.eval (.tmp x) = u)
    (hrun : ∀ W : World, (Instr.buildSlice t 1 #[(0, u)]).run Try.prog W = .ok (.slice (some ⟨W.heap.size, 0, none⟩) 1 1) (W.alloc (.cells cs.toArray e))) (hM : ∀ (W : World) b ok, d.M W b ok p cs)
    (hI : nh_IV w gs g10 g11 gm st c10 c11 m W)
    (h : ∀ v1 w1, nh_OR d e w g10 g11 v1 [p] w1 → nh_IV w gs g10 g11 gm st c10 c11 m w1 → Below W.heap.size W w1 → K (a.put N v1) w1) : if Region.wanted o (yielded ops a.tmps) = true then Oper.wp Try.prog o a W K Q else K (a.put N undef) W := by
  subst hN
  have hr : (execOp a.eval o).run Try.prog W = .ok (.value (.slice (some ⟨W.heap.size, 0, none⟩) 1 1)) (W.alloc (.cells cs.toArray e)) := by
    unfold execOp
    simp only [ho, List.map_toArray, List.map_cons, List.map_nil, hx, Sem.run_bind, hrun, Result.andThen_ok, Sem.run_pure]
  have hb := below_alloc (Below.refl W.heap.size W) (.cells cs.toArray e)
  refine event_step (nh_wantedN hgd _) hr (h _ _ ⟨fun k hk => ?_, cs, ⟨?_, .inr ⟨W.heap.size, 1, cs.toArray, rfl, hI.bl.size, heap_alloc_new W _, Nat.le_refl 1, by simp [maxLen], ?_, ?_⟩⟩, ?_⟩ (hI.below hb) hb)
  · obtain rfl : W.heap.size = k := by simpa [Value.ownBlock] using hk
    have h1 := blk_lt hI.b10
    have h2 := blk_lt hI.b11
    exact ⟨by omega, by omega⟩
  · have := d.K_len (d.K_of_M (hM W 0 (fun _ => True)))
    simp [this]
  · have := d.K_len (d.K_of_M (hM W 0 (fun _ => True)))
    simp [this]
  · have := d.K_len (d.K_of_M (hM W 0 (fun _ => True)))
    rw [← this]
    simp
  · have hl := d.K_len (d.K_of_M (hM W 0 (fun _ => True)))
    have h1 := (Reps.none (d.M (W.alloc (.cells cs.toArray e)) w.heap.size fun k => (k ≠ g10 ∧ k ≠ g11) ∧ some k ≠ (Value.slice (some { block := W.heap.size, off := 0 }) 1 1).ownBlock) d.sz).snoc (p := p) (hM _ _ _) hl
    simpa using h1
theorem nh_appE (d : Kd α) (e t : TypeId) (z : Value) (bytes : Nat) (xs : List α) (p : α) (s x : Tmp) (v y : Value) (hgd : o.guard = none) (hN : o.dst = N) (ho : o.op = .call { callee := .builtin .append, args := #[.tmp s, .tmp x], argTypes := #[t, t] }) (hs : a.eval (.tmp s) = v) (hx : a.eval (.tmp x) = y)
    (ht : Try.prog.underlying t = some (.slice e)) (hinfo : (Try.prog.info? e).map (fun i => (i.zero, i.size, i.bytes)) = some (some z, d.sz, bytes)) (hz : z.cells.size = d.sz) (hs0 : 0 < d.sz) (hb0 : 0 < bytes) (hl : (xs.length + 1) * bytes ≤ 140737488355328) (he : e ≠ 99) (hKM : ∀ (W : World) x cs, d.K W x cs → ∀ b ok, d.M W b ok x cs)
    (hI : nh_IV w gs g10 g11 gm st c10 c11 m W) (hO : nh_OR d e w g10 g11 v xs W) (hY : nh_OR d e w g10 g11 y [p] W)
    (h : ∀ v1 w1, nh_OR d e w g10 g11 v1 (xs ++ [p]) w1 → nh_IV w gs g10 g11 gm st c10 c11 m w1 → W.grownBy w1 v.ownBlock → K (a.put N v1) w1) : if Region.wanted o (yielded ops a.tmps) = true then Oper.wp Try.prog o a W K Q else K (a.put N undef) W := by
  subst hN
  obtain ⟨A, c, rfl⟩ := Kd.R_slice hY
  obtain ⟨_, hc, hC⟩ := Kd.R_reads' hY
  have h1 := blk_lt hI.b10
  have h2 := blk_lt hI.b11
  refine Kd.R_append_rows_step d (Rr := d.K W) w.heap.size (nh_wantedN hgd _) (.tmp s) (.tmp x) t e z bytes ho ht hinfo hz hs0 hb0 v xs [p] A 1 c (fun k => k ≠ g10 ∧ k ≠ g11) (fun _ => False) hs hx hO hC (fun x cs hk => hKM _ _ _ hk _ _) (fun _ hk => hk.elim) (fun k hk => ⟨by omega, by omega⟩) hI.bl hI.bl.size hl ?_
  intro v1 w1 hR hb hg _
  exact h v1 w1 hR (hI.grown hO he hg hb) hg
end
def nh_stg.T22 : Bool × List (List Nat × List Nat) := (true, [([], []), ([], []), ([], []), ([], []), ([3], [3]), ([4], [4]), ([5], [5]), ([], []), ([7], [7]), ([6, 8], [6, 8]), ([], []), ([10], [10]), ([11], [11]), ([12], [12]), ([], []), ([14], [14]), ([13, 15, 9], [13, 15]), ([], []), ([17], [17]), ([18], [18]), ([19], [19]), ([], []), ([21], [21]), ([20, 22, 16], [20, 22]), ([0, 0, 3, 4, 5, 6, 7, 8, 9, 13, 16, 20, 23], [0]), ([24, 0, 3, 4, 5, 6, 7, 8, 9, 13, 16, 20, 23], [24]), ([25, 9, 23, 0, 3, 4, 5, 6, 7, 8, 9, 13, 16, 20, 23], [9, 25]), ([1, 0, 1, 3, 4, 5, 6, 7, 8, 9, 10, 11, 12, 13, 14, 15, 16, 20, 23, 24, 25, 26], [1]), ([27, 0, 1, 3, 4, 5, 6, 7, 8, 9, 10, 11, 12, 13, 14, 15, 16, 20, 23, 24, 25, 26], [27]), ([28, 16, 26, 0, 1, 3, 4, 5, 6, 7, 8, 9, 10, 11, 12, 13, 14, 15, 16, 20, 23, 24, 25, 26], [16, 28]), ([2, 0, 1, 2, 3, 4, 5, 6, 7, 8, 9, 10, 11, 12, 13, 14, 15, 16, 17, 18, 19, 20, 21, 22, 23, 24, 25, 26, 27, 28, 29], [2]), ([30, 0, 1, 2, 3, 4, 5, 6, 7, 8, 9, 10, 11, 12, 13, 14, 15, 16, 17, 18, 19, 20, 21, 22, 23, 24, 25, 26, 27, 28, 29], [30]), ([31, 23, 29, 0, 1, 2, 3, 4, 5, 6, 7, 8, 9, 10, 11, 12, 13, 14, 15, 16, 17, 18, 19, 20, 21, 22, 23, 24, 25, 26, 27, 28, 29], [23, 31])])
def nh_stg.B22 : List Nat := [0, 0, 0, 0, 8, 24, 56, 0, 128, 504, 0, 1024, 3072, 7168, 0, 16384, 65528, 0, 131072, 393216, 917504, 0, 2097152, 8388600, 16777209, 33554425, 67108857, 134217723, 268435451, 536870907, 1073741823, 2147483647, 4294967295]
theorem nh_stg.tab22 : rtab .any (opsOf Try.f41 22) = nh_stg.T22 := by kernel_rfl
theorem nh_stg.bits22 : waitsOk nh_stg.T22.2 nh_stg.B22 = true := by kernel_rfl
/-- The frame with the six values that the literals and the appends yield. -/
def nh_FR (a : Act) (x92 x93 x99 x100 x106 x107 : Value) : Act := (((((a.put (some 92) x92).put (some 93) x93).put (some 99) x99).put (some 100) x100).put (some 106) x106).put (some 107) x107
theorem nh_put_comm (a : Act) {i j : Tmp} (h : i ≠ j) (u v : Value) : (a.put (some i) u).put (some j) v = (a.put (some j) v).put (some i) u := by
  simp only [Act.put]
  rw [Array.setIfInBounds_comm _ _ h]
theorem nh_put_put (a : Act) (i : Tmp) (u v : Value) : (a.put (some i) u).put (some i) v = a.put (some i) v := by
  simp only [Act.put, Array.setIfInBounds_setIfInBounds]
theorem nh_eval_put (a : Act) {i j : Tmp} (h : i ≠ j) (u : Value) : (a.put (some i) u).eval (.tmp j) = a.eval (.tmp j) := by
  simp [Act.put, Act.eval, Array.getD_eq_getD_getElem?, Array.getElem?_setIfInBounds, h]
theorem nh_eval_put_same (a : Act) {i : Tmp} (h : i < a.tmps.size) (u : Value) : (a.put (some i) u).eval (.tmp i) = u := by
  simp [Act.put, Act.eval, Array.getD_eq_getD_getElem?, Array.getElem?_setIfInBounds, h]
theorem nh_put_size (a : Act) (i : Tmp) (u : Value) : (a.put (some i) u).tmps.size = a.tmps.size := by simp [Act.put]

theorem nh_put_self (a : Act) {i : Tmp} (h : i < a.tmps.size) : a.put (some i) (a.eval (.tmp i)) = a := by
  have e : a.tmps.setIfInBounds i (a.eval (.tmp i)) = a.tmps := by
    apply Array.ext
    · simp
    · intro j h1 h2
      rw [Array.getElem_setIfInBounds (by simpa using h2)]
      split
      · rename_i h3
        subst h3
        simp [Act.eval, Array.getD_eq_getD_getElem?, h]
      · rfl
  simp only [Act.put, e]
theorem nh_FR_self (a : Act) (h : a.tmps.size = 116) : nh_FR a (a.eval (.tmp 92)) (a.eval (.tmp 93)) (a.eval (.tmp 99)) (a.eval (.tmp 100)) (a.eval (.tmp 106)) (a.eval (.tmp 107)) = a := by
  unfold nh_FR
  rw [nh_put_self a (by rw [h]; decide), nh_put_self a (by rw [h]; decide), nh_put_self a (by rw [h]; decide), nh_put_self a (by rw [h]; decide), nh_put_self a (by rw [h]; decide), nh_put_self a (by rw [h]; decide)]

theorem nh_FR_put92 (a : Act) (x92 x93 x99 x100 x106 x107 u : Value) : (nh_FR a x92 x93 x99 x100 x106 x107).put (some 92) u = nh_FR a u x93 x99 x100 x106 x107 := by
  unfold nh_FR
  rw [nh_put_comm _ (show (107 : Tmp) ≠ 92 by decide)]
  rw [nh_put_comm _ (show (106 : Tmp) ≠ 92 by decide)]
  rw [nh_put_comm _ (show (100 : Tmp) ≠ 92 by decide)]
  rw [nh_put_comm _ (show (99 : Tmp) ≠ 92 by decide)]
  rw [nh_put_comm _ (show (93 : Tmp) ≠ 92 by decide)]
  rw [nh_put_put]

theorem nh_FR_put93 (a : Act) (x92 x93 x99 x100 x106 x107 u : Value) : (nh_FR a x92 x93 x99 x100 x106 x107).put (some 93) u = nh_FR a x92 u x99 x100 x106 x107 := by
  unfold nh_FR
  rw [nh_put_comm _ (show (107 : Tmp) ≠ 93 by decide)]
  rw [nh_put_comm _ (show (106 : Tmp) ≠ 93 by decide)]
  rw [nh_put_comm _ (show (100 : Tmp) ≠ 93 by decide)]
  rw [nh_put_comm _ (show (99 : Tmp) ≠ 93 by decide)]
  rw [nh_put_put]

theorem nh_FR_put99 (a : Act) (x92 x93 x99 x100 x106 x107 u : Value) : (nh_FR a x92 x93 x99 x100 x106 x107).put (some 99) u = nh_FR a x92 x93 u x100 x106 x107 := by
  unfold nh_FR
  rw [nh_put_comm _ (show (107 : Tmp) ≠ 99 by decide)]
  rw [nh_put_comm _ (show (106 : Tmp) ≠ 99 by decide)]
  rw [nh_put_comm _ (show (100 : Tmp) ≠ 99 by decide)]
  rw [nh_put_put]

theorem nh_FR_put100 (a : Act) (x92 x93 x99 x100 x106 x107 u : Value) : (nh_FR a x92 x93 x99 x100 x106 x107).put (some 100) u = nh_FR a x92 x93 x99 u x106 x107 := by
  unfold nh_FR
  rw [nh_put_comm _ (show (107 : Tmp) ≠ 100 by decide)]
  rw [nh_put_comm _ (show (106 : Tmp) ≠ 100 by decide)]
  rw [nh_put_put]

theorem nh_FR_put106 (a : Act) (x92 x93 x99 x100 x106 x107 u : Value) : (nh_FR a x92 x93 x99 x100 x106 x107).put (some 106) u = nh_FR a x92 x93 x99 x100 u x107 := by
  unfold nh_FR
  rw [nh_put_comm _ (show (107 : Tmp) ≠ 106 by decide)]
  rw [nh_put_put]

theorem nh_FR_put107 (a : Act) (x92 x93 x99 x100 x106 x107 u : Value) : (nh_FR a x92 x93 x99 x100 x106 x107).put (some 107) u = nh_FR a x92 x93 x99 x100 x106 u := by
  unfold nh_FR
  rw [nh_put_put]

theorem nh_FR_ev90 (a : Act) (x92 x93 x99 x100 x106 x107 : Value) : (nh_FR a x92 x93 x99 x100 x106 x107).eval (.tmp 90) = a.eval (.tmp 90) := by
  unfold nh_FR
  rw [nh_eval_put _ (by decide), nh_eval_put _ (by decide), nh_eval_put _ (by decide), nh_eval_put _ (by decide), nh_eval_put _ (by decide), nh_eval_put _ (by decide)]

theorem nh_FR_ev91 (a : Act) (x92 x93 x99 x100 x106 x107 : Value) : (nh_FR a x92 x93 x99 x100 x106 x107).eval (.tmp 91) = a.eval (.tmp 91) := by
  unfold nh_FR
  rw [nh_eval_put _ (by decide), nh_eval_put _ (by decide), nh_eval_put _ (by decide), nh_eval_put _ (by decide), nh_eval_put _ (by decide), nh_eval_put _ (by decide)]

theorem nh_FR_ev97 (a : Act) (x92 x93 x99 x100 x106 x107 : Value) : (nh_FR a x92 x93 x99 x100 x106 x107).eval (.tmp 97) = a.eval (.tmp 97) := by
  unfold nh_FR
  rw [nh_eval_put _ (by decide), nh_eval_put _ (by decide), nh_eval_put _ (by decide), nh_eval_put _ (by decide), nh_eval_put _ (by decide), nh_eval_put _ (by decide)]

theorem nh_FR_ev98 (a : Act) (x92 x93 x99 x100 x106 x107 : Value) : (nh_FR a x92 x93 x99 x100 x106 x107).eval (.tmp 98) = a.eval (.tmp 98) := by
  unfold nh_FR
  rw [nh_eval_put _ (by decide), nh_eval_put _ (by decide), nh_eval_put _ (by decide), nh_eval_put _ (by decide), nh_eval_put _ (by decide), nh_eval_put _ (by decide)]

theorem nh_FR_ev104 (a : Act) (x92 x93 x99 x100 x106 x107 : Value) : (nh_FR a x92 x93 x99 x100 x106 x107).eval (.tmp 104) = a.eval (.tmp 104) := by
  unfold nh_FR
  rw [nh_eval_put _ (by decide), nh_eval_put _ (by decide), nh_eval_put _ (by decide), nh_eval_put _ (by decide), nh_eval_put _ (by decide), nh_eval_put _ (by decide)]

theorem nh_FR_ev105 (a : Act) (x92 x93 x99 x100 x106 x107 : Value) : (nh_FR a x92 x93 x99 x100 x106 x107).eval (.tmp 105) = a.eval (.tmp 105) := by
  unfold nh_FR
  rw [nh_eval_put _ (by decide), nh_eval_put _ (by decide), nh_eval_put _ (by decide), nh_eval_put _ (by decide), nh_eval_put _ (by decide), nh_eval_put _ (by decide)]

theorem nh_FR_ev92 (a : Act) (h : a.tmps.size = 116) (x92 x93 x99 x100 x106 x107 : Value) : (nh_FR a x92 x93 x99 x100 x106 x107).eval (.tmp 92) = x92 := by
  unfold nh_FR
  rw [nh_eval_put _ (by decide), nh_eval_put _ (by decide), nh_eval_put _ (by decide), nh_eval_put _ (by decide), nh_eval_put _ (by decide), nh_eval_put_same _ (by simp only [nh_put_size, h]; decide)]

theorem nh_FR_ev99 (a : Act) (h : a.tmps.size = 116) (x92 x93 x99 x100 x106 x107 : Value) : (nh_FR a x92 x93 x99 x100 x106 x107).eval (.tmp 99) = x99 := by
  unfold nh_FR
  rw [nh_eval_put _ (by decide), nh_eval_put _ (by decide), nh_eval_put _ (by decide), nh_eval_put_same _ (by simp only [nh_put_size, h]; decide)]

theorem nh_FR_ev106 (a : Act) (h : a.tmps.size = 116) (x92 x93 x99 x100 x106 x107 : Value) : (nh_FR a x92 x93 x99 x100 x106 x107).eval (.tmp 106) = x106 := by
  unfold nh_FR
  rw [nh_eval_put _ (by decide), nh_eval_put_same _ (by simp only [nh_put_size, h]; decide)]

set_option maxHeartbeats 4000000 in
set_option maxRecDepth 100000 in
theorem nh_orders22 {Q : Exit → Act → World → Prop} {S : World → Prop} {ops : Array Oper} {o8 o15 o22 o9 o16 o23 : Oper} {a0 : Act} {w : World} {gs g10 g11 gm : Nat} {st c10 c11 : Array Value} {m : List ((Int × Int) × Int)} {vc vh vb : Value} {cl : List Int} {hl : List S102} {bl : List S103} {can : Int} {h4 : S102} {b4 : S103}
    (HT : Aside0 (rtab .any ops = nh_stg.T22)) (hS : ∀ W, nh_IV w gs g10 g11 gm st c10 c11 m W → S W) (hz : a0.tmps.size = 116) (lc : cl.length ≤ 200) (lh : hl.length ≤ 200) (lb : bl.length ≤ 200) (i8 : ops[8]? = some o8) (d8 : o8.dst = some 92) (g8 : o8.guard = none) (p8 : o8.op = .buildSlice 95 1 #[(0, .tmp 91)]) (i15 : ops[15]? = some o15) (d15 : o15.dst = some 99) (g15 : o15.guard = none) (p15 : o15.op = .buildSlice 96 1 #[(0, .tmp 98)]) (i22 : ops[22]? = some o22) (d22 : o22.dst = some 106) (g22 : o22.guard = none) (p22 : o22.op = .buildSlice 97 1 #[(0, .tmp 105)]) (i9 : ops[9]? = some o9) (d9 : o9.dst = some 93) (g9 : o9.guard = none) (p9 : o9.op = .call { callee := .builtin .append, args := #[.tmp 90, .tmp 92], argTypes := #[95, 95] }) (i16 : ops[16]? = some o16) (d16 : o16.dst = some 100) (g16 : o16.guard = none) (p16 : o16.op = .call { callee := .builtin .append, args := #[.tmp 97, .tmp 99], argTypes := #[96, 96] }) (i23 : ops[23]? = some o23) (d23 : o23.dst = some 107) (g23 : o23.guard = none) (p23 : o23.op = .call { callee := .builtin .append, args := #[.tmp 104, .tmp 106], argTypes := #[97, 97] }) (v90 : a0.eval (.tmp 90) = vc) (v97 : a0.eval (.tmp 97) = vh) (v104 : a0.eval (.tmp 104) = vb) (v91 : a0.eval (.tmp 91) = (.int .u8 can)) (v98 : a0.eval (.tmp 98) = (.agg #[.int .u8 h4.f0, .int .u8 h4.f1, .int .u8 h4.f2, .int .u8 h4.f3])) (v105 : a0.eval (.tmp 105) = (.agg #[.int .i64 b4.f0, .int .i64 b4.f1, .int .i64 b4.f2, .int .i64 b4.f3]))
    (hend : ∀ (x92 x93 x99 x100 x106 x107 : Value) (W : World), nh_IV w gs g10 g11 gm st c10 c11 m W → nh_OR (Kd.int .u8) 101 w g10 g11 x93 (cl ++ [can]) W → nh_OR k102 102 w g10 g11 x100 (hl ++ [h4]) W → nh_OR k103 103 w g10 g11 x107 (bl ++ [b4]) W → wpAnyLast Try.prog .any ops Q S [26, 29, 32] 9 (zq 33 16777215) (nh_FR a0 x92 x93 x99 x100 x106 x107) W) : ∀ W : World, nh_IV w gs g10 g11 gm st c10 c11 m W → nh_OR (Kd.int .u8) 101 w g10 g11 vc cl W → nh_OR k102 102 w g10 g11 vh hl W → nh_OR k103 103 w g10 g11 vb bl W → wpAnyLast Try.prog .any ops Q S [26, 29, 32] 15 (zq 33 4095231) a0 W := by
  have J3_AHB := hend
  have J2_AHB : ∀ (x92 x93 x99 x100 x106 x107 : Value) (W : World), nh_IV w gs g10 g11 gm st c10 c11 m W → nh_OR (Kd.int .u8) 101 w g10 g11 x93 (cl ++ [can]) W → nh_OR k102 102 w g10 g11 x100 (hl ++ [h4]) W → nh_OR k103 103 w g10 g11 vb bl W → nh_OR k103 103 w g10 g11 x106 [b4] W → wpAnyLast Try.prog .any ops Q S [26, 29, 32] 10 (zq 33 8388607) (nh_FR a0 x92 x93 x99 x100 x106 x107) W := by
    intro x92 x93 x99 x100 x106 x107 W hI RA RH RB YB
    refine one_ (i := 23) (N := some 107) (zq 33 16777215) i23 d23 (one_of HT.out (by kernel_rfl)) (by decide) (fun K hK => ?_)
    · refine nh_appE (w := w) k103 103 97 (.agg #[.int .i64 0, .int .i64 0, .int .i64 0, .int .i64 0]) 32 bl b4 104 106 vb x106 g23 d23 p23 (by rw [nh_FR_ev104]; exact v104) (by rw [nh_FR_ev106 _ hz]) Try.underlying97 nh_info103 rfl (by decide) (by decide) (by omega) (by decide) (fun _ x cs hk b ok => by obtain rfl := k103_open hk; exact k103_mkM _ b ok x) hI RB YB ?_
      intro v1 W1 hR hI1 hg
      refine hK.out _ _ (hS _ hI1) (fun _ => ?_)
      rw [nh_FR_put107]
      exact J3_AHB x92 x93 x99 x100 x106 v1 W1 hI1 (RA.grown RB (by decide) hg) (RH.grown RB (by decide) hg) hR
  have J2_AH : ∀ (x92 x93 x99 x100 x106 x107 : Value) (W : World), nh_IV w gs g10 g11 gm st c10 c11 m W → nh_OR (Kd.int .u8) 101 w g10 g11 x93 (cl ++ [can]) W → nh_OR k102 102 w g10 g11 x100 (hl ++ [h4]) W → nh_OR k103 103 w g10 g11 vb bl W → wpAnyLast Try.prog .any ops Q S [26, 29, 32] 11 (zq 33 4194303) (nh_FR a0 x92 x93 x99 x100 x106 x107) W := by
    intro x92 x93 x99 x100 x106 x107 W hI RA RH RB
    refine one_ (i := 22) (N := some 106) (zq 33 8388607) i22 d22 (one_of HT.out (by kernel_rfl)) (by decide) (fun K hK => ?_)
    · refine nh_litE (w := w) k103 103 97 b4 [.int .i64 b4.f0, .int .i64 b4.f1, .int .i64 b4.f2, .int .i64 b4.f3] 105 (.agg #[.int .i64 b4.f0, .int .i64 b4.f1, .int .i64 b4.f2, .int .i64 b4.f3]) g22 d22 p22 (by rw [nh_FR_ev105]; exact v105) (fun W => nh_bs103 W b4.f0 b4.f1 b4.f2 b4.f3) (fun W b ok => k103_mkM W b ok b4) hI ?_
      intro v1 W1 hY hI1 hb
      refine hK.out _ _ (hS _ hI1) (fun _ => ?_)
      rw [nh_FR_put106]
      exact J2_AHB x92 x93 x99 x100 v1 x107 W1 hI1 (RA.below hb) (RH.below hb) (RB.below hb) hY
  have J1_AHB : ∀ (x92 x93 x99 x100 x106 x107 : Value) (W : World), nh_IV w gs g10 g11 gm st c10 c11 m W → nh_OR (Kd.int .u8) 101 w g10 g11 x93 (cl ++ [can]) W → nh_OR k102 102 w g10 g11 vh hl W → nh_OR k102 102 w g10 g11 x99 [h4] W → nh_OR k103 103 w g10 g11 vb bl W → nh_OR k103 103 w g10 g11 x106 [b4] W → wpAnyLast Try.prog .any ops Q S [26, 29, 32] 11 (zq 33 8323071) (nh_FR a0 x92 x93 x99 x100 x106 x107) W := by
    intro x92 x93 x99 x100 x106 x107 W hI RA RH YH RB YB
    refine one_ (i := 16) (N := some 100) (zq 33 8388607) i16 d16 (one_of HT.out (by kernel_rfl)) (by decide) (fun K hK => ?_)
    · refine nh_appE (w := w) k102 102 96 (.agg #[.int .u8 0, .int .u8 0, .int .u8 0, .int .u8 0]) 4 hl h4 97 99 vh x99 g16 d16 p16 (by rw [nh_FR_ev97]; exact v97) (by rw [nh_FR_ev99 _ hz]) Try.underlying96 nh_info102 rfl (by decide) (by decide) (by omega) (by decide) (fun _ x cs hk b ok => by obtain rfl := k102_open hk; exact k102_mkM _ b ok x) hI RH YH ?_
      intro v1 W1 hR hI1 hg
      refine hK.out _ _ (hS _ hI1) (fun _ => ?_)
      rw [nh_FR_put100]
      exact J2_AHB x92 x93 x99 v1 x106 x107 W1 hI1 (RA.grown RH (by decide) hg) hR (RB.grown RH (by decide) hg) (YB.grown RH (by decide) hg)
  have J1_AB : ∀ (x92 x93 x99 x100 x106 x107 : Value) (W : World), nh_IV w gs g10 g11 gm st c10 c11 m W → nh_OR (Kd.int .u8) 101 w g10 g11 x93 (cl ++ [can]) W → nh_OR k102 102 w g10 g11 vh hl W → nh_OR k103 103 w g10 g11 vb bl W → nh_OR k103 103 w g10 g11 x106 [b4] W → wpAnyLast Try.prog .any ops Q S [26, 29, 32] 12 (zq 33 8290303) (nh_FR a0 x92 x93 x99 x100 x106 x107) W := by
    intro x92 x93 x99 x100 x106 x107 W hI RA RH RB YB
    refine one_ (i := 15) (N := some 99) (zq 33 8323071) i15 d15 (one_of HT.out (by kernel_rfl)) (by decide) (fun K hK => ?_)
    · refine nh_litE (w := w) k102 102 96 h4 [.int .u8 h4.f0, .int .u8 h4.f1, .int .u8 h4.f2, .int .u8 h4.f3] 98 (.agg #[.int .u8 h4.f0, .int .u8 h4.f1, .int .u8 h4.f2, .int .u8 h4.f3]) g15 d15 p15 (by rw [nh_FR_ev98]; exact v98) (fun W => nh_bs102 W h4.f0 h4.f1 h4.f2 h4.f3) (fun W b ok => k102_mkM W b ok h4) hI ?_
      intro v1 W1 hY hI1 hb
      refine hK.out _ _ (hS _ hI1) (fun _ => ?_)
      rw [nh_FR_put99]
      exact J1_AHB x92 x93 v1 x100 x106 x107 W1 hI1 (RA.below hb) (RH.below hb) hY (RB.below hb) (YB.below hb)
  have J1_AH : ∀ (x92 x93 x99 x100 x106 x107 : Value) (W : World), nh_IV w gs g10 g11 gm st c10 c11 m W → nh_OR (Kd.int .u8) 101 w g10 g11 x93 (cl ++ [can]) W → nh_OR k102 102 w g10 g11 vh hl W → nh_OR k102 102 w g10 g11 x99 [h4] W → nh_OR k103 103 w g10 g11 vb bl W → wpAnyLast Try.prog .any ops Q S [26, 29, 32] 12 (zq 33 4128767) (nh_FR a0 x92 x93 x99 x100 x106 x107) W := by
    intro x92 x93 x99 x100 x106 x107 W hI RA RH YH RB
    refine two_ (i := 16) (j := 22) (Ni := some 100) (Nj := some 106) (zq 33 4194303) (zq 33 8323071) i16 i22 d16 d22 (two_of HT.out (by kernel_rfl)) (by decide) (by decide) (fun K hK => ?_) (fun K hK => ?_)
    · refine nh_appE (w := w) k102 102 96 (.agg #[.int .u8 0, .int .u8 0, .int .u8 0, .int .u8 0]) 4 hl h4 97 99 vh x99 g16 d16 p16 (by rw [nh_FR_ev97]; exact v97) (by rw [nh_FR_ev99 _ hz]) Try.underlying96 nh_info102 rfl (by decide) (by decide) (by omega) (by decide) (fun _ x cs hk b ok => by obtain rfl := k102_open hk; exact k102_mkM _ b ok x) hI RH YH ?_
      intro v1 W1 hR hI1 hg
      refine hK.out _ _ (hS _ hI1) (fun _ => ?_)
      rw [nh_FR_put100]
      exact J2_AH x92 x93 x99 v1 x106 x107 W1 hI1 (RA.grown RH (by decide) hg) hR (RB.grown RH (by decide) hg)
    · refine nh_litE (w := w) k103 103 97 b4 [.int .i64 b4.f0, .int .i64 b4.f1, .int .i64 b4.f2, .int .i64 b4.f3] 105 (.agg #[.int .i64 b4.f0, .int .i64 b4.f1, .int .i64 b4.f2, .int .i64 b4.f3]) g22 d22 p22 (by rw [nh_FR_ev105]; exact v105) (fun W => nh_bs103 W b4.f0 b4.f1 b4.f2 b4.f3) (fun W b ok => k103_mkM W b ok b4) hI ?_
      intro v1 W1 hY hI1 hb
      refine hK.out _ _ (hS _ hI1) (fun _ => ?_)
      rw [nh_FR_put106]
      exact J1_AHB x92 x93 x99 x100 v1 x107 W1 hI1 (RA.below hb) (RH.below hb) (YH.below hb) (RB.below hb) hY
  have J1_A : ∀ (x92 x93 x99 x100 x106 x107 : Value) (W : World), nh_IV w gs g10 g11 gm st c10 c11 m W → nh_OR (Kd.int .u8) 101 w g10 g11 x93 (cl ++ [can]) W → nh_OR k102 102 w g10 g11 vh hl W → nh_OR k103 103 w g10 g11 vb bl W → wpAnyLast Try.prog .any ops Q S [26, 29, 32] 13 (zq 33 4095999) (nh_FR a0 x92 x93 x99 x100 x106 x107) W := by
    intro x92 x93 x99 x100 x106 x107 W hI RA RH RB
    refine two_ (i := 15) (j := 22) (Ni := some 99) (Nj := some 106) (zq 33 4128767) (zq 33 8290303) i15 i22 d15 d22 (two_of HT.out (by kernel_rfl)) (by decide) (by decide) (fun K hK => ?_) (fun K hK => ?_)
    · refine nh_litE (w := w) k102 102 96 h4 [.int .u8 h4.f0, .int .u8 h4.f1, .int .u8 h4.f2, .int .u8 h4.f3] 98 (.agg #[.int .u8 h4.f0, .int .u8 h4.f1, .int .u8 h4.f2, .int .u8 h4.f3]) g15 d15 p15 (by rw [nh_FR_ev98]; exact v98) (fun W => nh_bs102 W h4.f0 h4.f1 h4.f2 h4.f3) (fun W b ok => k102_mkM W b ok h4) hI ?_
      intro v1 W1 hY hI1 hb
      refine hK.out _ _ (hS _ hI1) (fun _ => ?_)
      rw [nh_FR_put99]
      exact J1_AH x92 x93 v1 x100 x106 x107 W1 hI1 (RA.below hb) (RH.below hb) hY (RB.below hb)
    · refine nh_litE (w := w) k103 103 97 b4 [.int .i64 b4.f0, .int .i64 b4.f1, .int .i64 b4.f2, .int .i64 b4.f3] 105 (.agg #[.int .i64 b4.f0, .int .i64 b4.f1, .int .i64 b4.f2, .int .i64 b4.f3]) g22 d22 p22 (by rw [nh_FR_ev105]; exact v105) (fun W => nh_bs103 W b4.f0 b4.f1 b4.f2 b4.f3) (fun W b ok => k103_mkM W b ok b4) hI ?_
      intro v1 W1 hY hI1 hb
      refine hK.out _ _ (hS _ hI1) (fun _ => ?_)
      rw [nh_FR_put106]
      exact J1_AB x92 x93 x99 x100 v1 x107 W1 hI1 (RA.below hb) (RH.below hb) (RB.below hb) hY
  have J0_AHB : ∀ (x92 x93 x99 x100 x106 x107 : Value) (W : World), nh_IV w gs g10 g11 gm st c10 c11 m W → nh_OR (Kd.int .u8) 101 w g10 g11 vc cl W → nh_OR (Kd.int .u8) 101 w g10 g11 x92 [can] W → nh_OR k102 102 w g10 g11 vh hl W → nh_OR k102 102 w g10 g11 x99 [h4] W → nh_OR k103 103 w g10 g11 vb bl W → nh_OR k103 103 w g10 g11 x106 [b4] W → wpAnyLast Try.prog .any ops Q S [26, 29, 32] 12 (zq 33 8322559) (nh_FR a0 x92 x93 x99 x100 x106 x107) W := by
    intro x92 x93 x99 x100 x106 x107 W hI RA YA RH YH RB YB
    refine one_ (i := 9) (N := some 93) (zq 33 8323071) i9 d9 (one_of HT.out (by kernel_rfl)) (by decide) (fun K hK => ?_)
    · refine nh_appE (w := w) (Kd.int .u8) 101 95 (.int .u8 0) 1 cl can 90 92 vc x92 g9 d9 p9 (by rw [nh_FR_ev90]; exact v90) (by rw [nh_FR_ev92 _ hz]) Try.underlying95 nh_info101 rfl (by decide) (by decide) (by omega) (by decide) (fun _ _ _ hk _ _ => hk) hI RA YA ?_
      intro v1 W1 hR hI1 hg
      refine hK.out _ _ (hS _ hI1) (fun _ => ?_)
      rw [nh_FR_put93]
      exact J1_AHB x92 v1 x99 x100 x106 x107 W1 hI1 hR (RH.grown RA (by decide) hg) (YH.grown RA (by decide) hg) (RB.grown RA (by decide) hg) (YB.grown RA (by decide) hg)
  have J0_HB : ∀ (x92 x93 x99 x100 x106 x107 : Value) (W : World), nh_IV w gs g10 g11 gm st c10 c11 m W → nh_OR (Kd.int .u8) 101 w g10 g11 vc cl W → nh_OR k102 102 w g10 g11 vh hl W → nh_OR k102 102 w g10 g11 x99 [h4] W → nh_OR k103 103 w g10 g11 vb bl W → nh_OR k103 103 w g10 g11 x106 [b4] W → wpAnyLast Try.prog .any ops Q S [26, 29, 32] 13 (zq 33 8322303) (nh_FR a0 x92 x93 x99 x100 x106 x107) W := by
    intro x92 x93 x99 x100 x106 x107 W hI RA RH YH RB YB
    refine one_ (i := 8) (N := some 92) (zq 33 8322559) i8 d8 (one_of HT.out (by kernel_rfl)) (by decide) (fun K hK => ?_)
    · refine nh_litE (w := w) (Kd.int .u8) 101 95 can [.int .u8 can] 91 (.int .u8 can) g8 d8 p8 (by rw [nh_FR_ev91]; exact v91) (fun W => nh_bs101 W can) (fun _ _ _ => rfl) hI ?_
      intro v1 W1 hY hI1 hb
      refine hK.out _ _ (hS _ hI1) (fun _ => ?_)
      rw [nh_FR_put92]
      exact J0_AHB v1 x93 x99 x100 x106 x107 W1 hI1 (RA.below hb) hY (RH.below hb) (YH.below hb) (RB.below hb) (YB.below hb)
  have J0_AB : ∀ (x92 x93 x99 x100 x106 x107 : Value) (W : World), nh_IV w gs g10 g11 gm st c10 c11 m W → nh_OR (Kd.int .u8) 101 w g10 g11 vc cl W → nh_OR (Kd.int .u8) 101 w g10 g11 x92 [can] W → nh_OR k102 102 w g10 g11 vh hl W → nh_OR k103 103 w g10 g11 vb bl W → nh_OR k103 103 w g10 g11 x106 [b4] W → wpAnyLast Try.prog .any ops Q S [26, 29, 32] 13 (zq 33 8289791) (nh_FR a0 x92 x93 x99 x100 x106 x107) W := by
    intro x92 x93 x99 x100 x106 x107 W hI RA YA RH RB YB
    refine two_ (i := 9) (j := 15) (Ni := some 93) (Nj := some 99) (zq 33 8290303) (zq 33 8322559) i9 i15 d9 d15 (two_of HT.out (by kernel_rfl)) (by decide) (by decide) (fun K hK => ?_) (fun K hK => ?_)
    · refine nh_appE (w := w) (Kd.int .u8) 101 95 (.int .u8 0) 1 cl can 90 92 vc x92 g9 d9 p9 (by rw [nh_FR_ev90]; exact v90) (by rw [nh_FR_ev92 _ hz]) Try.underlying95 nh_info101 rfl (by decide) (by decide) (by omega) (by decide) (fun _ _ _ hk _ _ => hk) hI RA YA ?_
      intro v1 W1 hR hI1 hg
      refine hK.out _ _ (hS _ hI1) (fun _ => ?_)
      rw [nh_FR_put93]
      exact J1_AB x92 v1 x99 x100 x106 x107 W1 hI1 hR (RH.grown RA (by decide) hg) (RB.grown RA (by decide) hg) (YB.grown RA (by decide) hg)
    · refine nh_litE (w := w) k102 102 96 h4 [.int .u8 h4.f0, .int .u8 h4.f1, .int .u8 h4.f2, .int .u8 h4.f3] 98 (.agg #[.int .u8 h4.f0, .int .u8 h4.f1, .int .u8 h4.f2, .int .u8 h4.f3]) g15 d15 p15 (by rw [nh_FR_ev98]; exact v98) (fun W => nh_bs102 W h4.f0 h4.f1 h4.f2 h4.f3) (fun W b ok => k102_mkM W b ok h4) hI ?_
      intro v1 W1 hY hI1 hb
      refine hK.out _ _ (hS _ hI1) (fun _ => ?_)
      rw [nh_FR_put99]
      exact J0_AHB x92 x93 v1 x100 x106 x107 W1 hI1 (RA.below hb) (YA.below hb) (RH.below hb) hY (RB.below hb) (YB.below hb)
  have J0_AH : ∀ (x92 x93 x99 x100 x106 x107 : Value) (W : World), nh_IV w gs g10 g11 gm st c10 c11 m W → nh_OR (Kd.int .u8) 101 w g10 g11 vc cl W → nh_OR (Kd.int .u8) 101 w g10 g11 x92 [can] W → nh_OR k102 102 w g10 g11 vh hl W → nh_OR k102 102 w g10 g11 x99 [h4] W → nh_OR k103 103 w g10 g11 vb bl W → wpAnyLast Try.prog .any ops Q S [26, 29, 32] 13 (zq 33 4128255) (nh_FR a0 x92 x93 x99 x100 x106 x107) W := by
    intro x92 x93 x99 x100 x106 x107 W hI RA YA RH YH RB
    refine two_ (i := 9) (j := 22) (Ni := some 93) (Nj := some 106) (zq 33 4128767) (zq 33 8322559) i9 i22 d9 d22 (two_of HT.out (by kernel_rfl)) (by decide) (by decide) (fun K hK => ?_) (fun K hK => ?_)
    · refine nh_appE (w := w) (Kd.int .u8) 101 95 (.int .u8 0) 1 cl can 90 92 vc x92 g9 d9 p9 (by rw [nh_FR_ev90]; exact v90) (by rw [nh_FR_ev92 _ hz]) Try.underlying95 nh_info101 rfl (by decide) (by decide) (by omega) (by decide) (fun _ _ _ hk _ _ => hk) hI RA YA ?_
      intro v1 W1 hR hI1 hg
      refine hK.out _ _ (hS _ hI1) (fun _ => ?_)
      rw [nh_FR_put93]
      exact J1_AH x92 v1 x99 x100 x106 x107 W1 hI1 hR (RH.grown RA (by decide) hg) (YH.grown RA (by decide) hg) (RB.grown RA (by decide) hg)
    · refine nh_litE (w := w) k103 103 97 b4 [.int .i64 b4.f0, .int .i64 b4.f1, .int .i64 b4.f2, .int .i64 b4.f3] 105 (.agg #[.int .i64 b4.f0, .int .i64 b4.f1, .int .i64 b4.f2, .int .i64 b4.f3]) g22 d22 p22 (by rw [nh_FR_ev105]; exact v105) (fun W => nh_bs103 W b4.f0 b4.f1 b4.f2 b4.f3) (fun W b ok => k103_mkM W b ok b4) hI ?_
      intro v1 W1 hY hI1 hb
      refine hK.out _ _ (hS _ hI1) (fun _ => ?_)
      rw [nh_FR_put106]
      exact J0_AHB x92 x93 x99 x100 v1 x107 W1 hI1 (RA.below hb) (YA.below hb) (RH.below hb) (YH.below hb) (RB.below hb) hY
  have J0_B : ∀ (x92 x93 x99 x100 x106 x107 : Value) (W : World), nh_IV w gs g10 g11 gm st c10 c11 m W → nh_OR (Kd.int .u8) 101 w g10 g11 vc cl W → nh_OR k102 102 w g10 g11 vh hl W → nh_OR k103 103 w g10 g11 vb bl W → nh_OR k103 103 w g10 g11 x106 [b4] W → wpAnyLast Try.prog .any ops Q S [26, 29, 32] 14 (zq 33 8289535) (nh_FR a0 x92 x93 x99 x100 x106 x107) W := by
    intro x92 x93 x99 x100 x106 x107 W hI RA RH RB YB
    refine two_ (i := 8) (j := 15) (Ni := some 92) (Nj := some 99) (zq 33 8289791) (zq 33 8322303) i8 i15 d8 d15 (two_of HT.out (by kernel_rfl)) (by decide) (by decide) (fun K hK => ?_) (fun K hK => ?_)
    · refine nh_litE (w := w) (Kd.int .u8) 101 95 can [.int .u8 can] 91 (.int .u8 can) g8 d8 p8 (by rw [nh_FR_ev91]; exact v91) (fun W => nh_bs101 W can) (fun _ _ _ => rfl) hI ?_
      intro v1 W1 hY hI1 hb
      refine hK.out _ _ (hS _ hI1) (fun _ => ?_)
      rw [nh_FR_put92]
      exact J0_AB v1 x93 x99 x100 x106 x107 W1 hI1 (RA.below hb) hY (RH.below hb) (RB.below hb) (YB.below hb)
    · refine nh_litE (w := w) k102 102 96 h4 [.int .u8 h4.f0, .int .u8 h4.f1, .int .u8 h4.f2, .int .u8 h4.f3] 98 (.agg #[.int .u8 h4.f0, .int .u8 h4.f1, .int .u8 h4.f2, .int .u8 h4.f3]) g15 d15 p15 (by rw [nh_FR_ev98]; exact v98) (fun W => nh_bs102 W h4.f0 h4.f1 h4.f2 h4.f3) (fun W b ok => k102_mkM W b ok h4) hI ?_
      intro v1 W1 hY hI1 hb
      refine hK.out _ _ (hS _ hI1) (fun _ => ?_)
      rw [nh_FR_put99]
      exact J0_HB x92 x93 v1 x100 x106 x107 W1 hI1 (RA.below hb) (RH.below hb) hY (RB.below hb) (YB.below hb)
  have J0_H : ∀ (x92 x93 x99 x100 x106 x107 : Value) (W : World), nh_IV w gs g10 g11 gm st c10 c11 m W → nh_OR (Kd.int .u8) 101 w g10 g11 vc cl W → nh_OR k102 102 w g10 g11 vh hl W → nh_OR k102 102 w g10 g11 x99 [h4] W → nh_OR k103 103 w g10 g11 vb bl W → wpAnyLast Try.prog .any ops Q S [26, 29, 32] 14 (zq 33 4127999) (nh_FR a0 x92 x93 x99 x100 x106 x107) W := by
    intro x92 x93 x99 x100 x106 x107 W hI RA RH YH RB
    refine two_ (i := 8) (j := 22) (Ni := some 92) (Nj := some 106) (zq 33 4128255) (zq 33 8322303) i8 i22 d8 d22 (two_of HT.out (by kernel_rfl)) (by decide) (by decide) (fun K hK => ?_) (fun K hK => ?_)
    · refine nh_litE (w := w) (Kd.int .u8) 101 95 can [.int .u8 can] 91 (.int .u8 can) g8 d8 p8 (by rw [nh_FR_ev91]; exact v91) (fun W => nh_bs101 W can) (fun _ _ _ => rfl) hI ?_
      intro v1 W1 hY hI1 hb
      refine hK.out _ _ (hS _ hI1) (fun _ => ?_)
      rw [nh_FR_put92]
      exact J0_AH v1 x93 x99 x100 x106 x107 W1 hI1 (RA.below hb) hY (RH.below hb) (YH.below hb) (RB.below hb)
    · refine nh_litE (w := w) k103 103 97 b4 [.int .i64 b4.f0, .int .i64 b4.f1, .int .i64 b4.f2, .int .i64 b4.f3] 105 (.agg #[.int .i64 b4.f0, .int .i64 b4.f1, .int .i64 b4.f2, .int .i64 b4.f3]) g22 d22 p22 (by rw [nh_FR_ev105]; exact v105) (fun W => nh_bs103 W b4.f0 b4.f1 b4.f2 b4.f3) (fun W b ok => k103_mkM W b ok b4) hI ?_
      intro v1 W1 hY hI1 hb
      refine hK.out _ _ (hS _ hI1) (fun _ => ?_)
      rw [nh_FR_put106]
      exact J0_HB x92 x93 x99 x100 v1 x107 W1 hI1 (RA.below hb) (RH.below hb) (YH.below hb) (RB.below hb) hY
  have J0_A : ∀ (x92 x93 x99 x100 x106 x107 : Value) (W : World), nh_IV w gs g10 g11 gm st c10 c11 m W → nh_OR (Kd.int .u8) 101 w g10 g11 vc cl W → nh_OR (Kd.int .u8) 101 w g10 g11 x92 [can] W → nh_OR k102 102 w g10 g11 vh hl W → nh_OR k103 103 w g10 g11 vb bl W → wpAnyLast Try.prog .any ops Q S [26, 29, 32] 14 (zq 33 4095487) (nh_FR a0 x92 x93 x99 x100 x106 x107) W := by
    intro x92 x93 x99 x100 x106 x107 W hI RA YA RH RB
    refine three_ (i := 9) (j := 15) (k := 22) (Ni := some 93) (Nj := some 99) (Nk := some 106) (zq 33 4095999) (zq 33 4128255) (zq 33 8289791) i9 i15 i22 d9 d15 d22 (three_of HT.out (by kernel_rfl)) (by decide) (by decide) (by decide) (fun K hK => ?_) (fun K hK => ?_) (fun K hK => ?_)
    · refine nh_appE (w := w) (Kd.int .u8) 101 95 (.int .u8 0) 1 cl can 90 92 vc x92 g9 d9 p9 (by rw [nh_FR_ev90]; exact v90) (by rw [nh_FR_ev92 _ hz]) Try.underlying95 nh_info101 rfl (by decide) (by decide) (by omega) (by decide) (fun _ _ _ hk _ _ => hk) hI RA YA ?_
      intro v1 W1 hR hI1 hg
      refine hK.out _ _ (hS _ hI1) (fun _ => ?_)
      rw [nh_FR_put93]
      exact J1_A x92 v1 x99 x100 x106 x107 W1 hI1 hR (RH.grown RA (by decide) hg) (RB.grown RA (by decide) hg)
    · refine nh_litE (w := w) k102 102 96 h4 [.int .u8 h4.f0, .int .u8 h4.f1, .int .u8 h4.f2, .int .u8 h4.f3] 98 (.agg #[.int .u8 h4.f0, .int .u8 h4.f1, .int .u8 h4.f2, .int .u8 h4.f3]) g15 d15 p15 (by rw [nh_FR_ev98]; exact v98) (fun W => nh_bs102 W h4.f0 h4.f1 h4.f2 h4.f3) (fun W b ok => k102_mkM W b ok h4) hI ?_
      intro v1 W1 hY hI1 hb
      refine hK.out _ _ (hS _ hI1) (fun _ => ?_)
      rw [nh_FR_put99]
      exact J0_AH x92 x93 v1 x100 x106 x107 W1 hI1 (RA.below hb) (YA.below hb) (RH.below hb) hY (RB.below hb)
    · refine nh_litE (w := w) k103 103 97 b4 [.int .i64 b4.f0, .int .i64 b4.f1, .int .i64 b4.f2, .int .i64 b4.f3] 105 (.agg #[.int .i64 b4.f0, .int .i64 b4.f1, .int .i64 b4.f2, .int .i64 b4.f3]) g22 d22 p22 (by rw [nh_FR_ev105]; exact v105) (fun W => nh_bs103 W b4.f0 b4.f1 b4.f2 b4.f3) (fun W b ok => k103_mkM W b ok b4) hI ?_
      intro v1 W1 hY hI1 hb
      refine hK.out _ _ (hS _ hI1) (fun _ => ?_)
      rw [nh_FR_put106]
      exact J0_AB x92 x93 x99 x100 v1 x107 W1 hI1 (RA.below hb) (YA.below hb) (RH.below hb) (RB.below hb) hY
  have J0_ : ∀ (x92 x93 x99 x100 x106 x107 : Value) (W : World), nh_IV w gs g10 g11 gm st c10 c11 m W → nh_OR (Kd.int .u8) 101 w g10 g11 vc cl W → nh_OR k102 102 w g10 g11 vh hl W → nh_OR k103 103 w g10 g11 vb bl W → wpAnyLast Try.prog .any ops Q S [26, 29, 32] 15 (zq 33 4095231) (nh_FR a0 x92 x93 x99 x100 x106 x107) W := by
    intro x92 x93 x99 x100 x106 x107 W hI RA RH RB
    refine three_ (i := 8) (j := 15) (k := 22) (Ni := some 92) (Nj := some 99) (Nk := some 106) (zq 33 4095487) (zq 33 4127999) (zq 33 8289535) i8 i15 i22 d8 d15 d22 (three_of HT.out (by kernel_rfl)) (by decide) (by decide) (by decide) (fun K hK => ?_) (fun K hK => ?_) (fun K hK => ?_)
    · refine nh_litE (w := w) (Kd.int .u8) 101 95 can [.int .u8 can] 91 (.int .u8 can) g8 d8 p8 (by rw [nh_FR_ev91]; exact v91) (fun W => nh_bs101 W can) (fun _ _ _ => rfl) hI ?_
      intro v1 W1 hY hI1 hb
      refine hK.out _ _ (hS _ hI1) (fun _ => ?_)
      rw [nh_FR_put92]
      exact J0_A v1 x93 x99 x100 x106 x107 W1 hI1 (RA.below hb) hY (RH.below hb) (RB.below hb)
    · refine nh_litE (w := w) k102 102 96 h4 [.int .u8 h4.f0, .int .u8 h4.f1, .int .u8 h4.f2, .int .u8 h4.f3] 98 (.agg #[.int .u8 h4.f0, .int .u8 h4.f1, .int .u8 h4.f2, .int .u8 h4.f3]) g15 d15 p15 (by rw [nh_FR_ev98]; exact v98) (fun W => nh_bs102 W h4.f0 h4.f1 h4.f2 h4.f3) (fun W b ok => k102_mkM W b ok h4) hI ?_
      intro v1 W1 hY hI1 hb
      refine hK.out _ _ (hS _ hI1) (fun _ => ?_)
      rw [nh_FR_put99]
      exact J0_H x92 x93 v1 x100 x106 x107 W1 hI1 (RA.below hb) (RH.below hb) hY (RB.below hb)
    · refine nh_litE (w := w) k103 103 97 b4 [.int .i64 b4.f0, .int .i64 b4.f1, .int .i64 b4.f2, .int .i64 b4.f3] 105 (.agg #[.int .i64 b4.f0, .int .i64 b4.f1, .int .i64 b4.f2, .int .i64 b4.f3]) g22 d22 p22 (by rw [nh_FR_ev105]; exact v105) (fun W => nh_bs103 W b4.f0 b4.f1 b4.f2 b4.f3) (fun W b ok => k103_mkM W b ok b4) hI ?_
      intro v1 W1 hY hI1 hb
      refine hK.out _ _ (hS _ hI1) (fun _ => ?_)
      rw [nh_FR_put106]
      exact J0_B x92 x93 x99 x100 v1 x107 W1 hI1 (RA.below hb) (RH.below hb) (RB.below hb) hY
  have e := nh_FR_self a0 hz
  have hJ := J0_ (a0.eval (.tmp 92)) (a0.eval (.tmp 93)) (a0.eval (.tmp 99)) (a0.eval (.tmp 100)) (a0.eval (.tmp 106)) (a0.eval (.tmp 107))
  rw [e] at hJ
  exact hJ
theorem nh_stp_h (l : List S62) (p : S62) : (nums .u8 (nh_stp l p 4).2.1) = [.int .u8 (nh_r102 p).f0, .int .u8 (nh_r102 p).f1, .int .u8 (nh_r102 p).f2, .int .u8 (nh_r102 p).f3] := rfl
theorem nh_stp_b (l : List S62) (p : S62) : (nums .i64 (nh_stp l p 4).2.2) = [.int .i64 (nh_r103 l p).f0, .int .i64 (nh_r103 l p).f1, .int .i64 (nh_r103 l p).f2, .int .i64 (nh_r103 l p).f3] := rfl
theorem nh_or_two {α : Type} {d : Kd α} {e : Nat} {w W : World} {v : Value} {xs : List α} {g10 g11 : Nat} (h : d.R e W w.heap.size (fun _ => True) v xs) (h1 : W.heap.size ≤ g10) (h2 : W.heap.size ≤ g11) : d.R e W w.heap.size (fun k => k ≠ g10 ∧ k ≠ g11) v xs :=
  Kd.R_mono (Kd.R_elderB (Kd.R_elderB h g10 h1) g11 h2) (fun k hk => ⟨hk.1.2, hk.2⟩)
theorem nh_take_snoc {β : Type} (f : S62 → β) (l : List S62) (i : Nat) (h : i < l.length) {p : S62} (hp : l.getD i z62 = p) : (l.take i).map f ++ [f p] = (l.take (i + 1)).map f := by
  have e : l[i] = p := by rw [← hp, List.getD_eq_getElem?_getD, List.getElem?_eq_getElem h]; rfl
  rw [List.take_succ_eq_append_getElem h, List.map_append, e]
  rfl
set_option maxHeartbeats 8000000 in
set_option maxRecDepth 100000 in
theorem nh_stageOf_calls (adb : Addr) (bw bh : Int) (l : List S62) (w : World) (hr0 : Kd.C k30 w (some adb) [(⟨bw, bh, l⟩ : S30)].length [(⟨bw, bh, l⟩ : S30)]) (hF : nh_Fine l) :
    Calls Try.prog 41 #[.pointer (some adb)] w fun e w' => ∃ gs, e = .returned (.pointer (some ⟨gs, 0, none⟩)) ∧ Kd.C k99 w' (some ⟨gs, 0, none⟩) [nh_stageL l].length [nh_stageL l] ∧ Below w.heap.size w w' := by
  obtain ⟨ad0, A, c, e0, hx0, hx1, hx2, hlc, hC⟩ := at_T30 hr0 0 (Int.le_refl 0) (by simp)
  obtain rfl : adb = ad0 := by injection e0
  rw [z00, Nat.zero_mul, Addr.add_zero'] at hx2
  rw [show rd_T30 [(⟨bw, bh, l⟩ : S30)] 0 = ⟨bw, bh, l⟩ from rfl] at hx2 hlc hC
  dsimp only at hx2 hlc hC
  have XX := Aside0.mk hx2
  have LC := Aside0.mk hlc
  have CC := Aside0.mk hC
  have FF := Aside0.mk hF
  have hu62 := Try.underlying62
  have hu34 := Try.underlying34
  have HB := Aside0.mk (Below.refl w.heap.size w)
  clear hr0 hx0 hx1 hlc hC hF
  go_enter Try.func41, Try.ntmps41
  go_wp2_with (first | ((with_reducible refine gate_dst (N := 22) rfl ?_); refine zbx 22 #[.slice A l.length c, .slice none 0 0, .slice none 0 0, .slice none 0 0] 99 ?_; intro gs hg w3 hbox hb; have n_ : _ ∧ _ ∧ _ := ⟨zbs hb, Aside0.mk hbox, zg HB hg⟩; clear HB hbox hb hg; obtain ⟨HB, BK, GS⟩ := n_) | ((with_reducible refine gate_dst (N := 23) rfl ?_); refine map_event rfl 100 rfl ?_; intro gm hg w4 hmap hb; have n_ : _ ∧ _ ∧ _ ∧ _ := ⟨zb HB hb, zk BK hb, Aside0.mk hmap, zg HB hg⟩; clear HB BK hmap hb hg; obtain ⟨HB, BK, MM, GM⟩ := n_; have hx3 := zc HB XX.out))
  go_loopw [29] (fun v29 w' => ∃ (i : Nat) (es : Array MapEntry) (ck : Nat), v29 = .int .i64 (i : Int) ∧ Aside0 (i ≤ l.length) ∧ Aside0 (w'.heap[gs]? = some (.cells #[.slice A l.length c, .slice none 0 0, .slice none 0 0, .slice none 0 0] 99 (0, 0))) ∧ Aside0 (w'.heap[gm]? = some (.map es ck)) ∧ Aside0 (ER nh_vI es (nh_PL l i)) ∧ Aside0 (Below w.heap.size w w')) (fun v29 _ => l.length - (intOf v29).toNat)
  case atStart => exact ⟨0, #[], 0, rfl, ⟨Nat.zero_le _⟩, zh BK, zh MM, ⟨rfl⟩, zl HB⟩
  case round =>
    clear HB BK MM hx3
    obtain ⟨i, es, ck, rfl, HI, BK, MM, ME, HB⟩ := hrel
    have NSM : Aside0 (gs ≠ gm) := ⟨fun e => by have h1 := BK.out; rw [e, MM.out] at h1; cases h1⟩
    by_cases ci : i < l.length
    · have ci0 : decide (i < l.length) = true := decide_eq_true ci
      have ci1 : decide ((i : Int) < (l.length : Int)) = true := decide_eq_true (by omega)
      have CI := Aside0.mk ci
      obtain ⟨ad, hA, hp0, hp1, hp2, hp3, hp4⟩ := at_T62 (Kd.C_below CC.out HB.out) (i : Int) (by omega) (by omega)
      subst hA
      obtain ⟨p, hp⟩ : ∃ p, rd_T62 l (i : Int) = p := ⟨_, rfl⟩
      rw [hp] at hp0 hp1 hp2 hp3 hp4
      simp only [Int.toNat_natCast] at hp0 hp1 hp2 hp3 hp4
      have PP : Aside0 (l.getD i z62 = p) := ⟨hp⟩
      have hno := FF.out.apart i ci
      rw [PP.out] at hno
      have mp := fun (W : World) (hb : W.heap[gm]? = some (.map es ck)) => run_mput (P := Try.prog) (T := 100) (w := W) nh_cellKeyI Try.underlying100 hb ME.out p.f0.f0 p.f0.f1 hno (i : Int)
      have ME2 : Aside0 (ER nh_vI (es.push ⟨ckey p.f0.f0 p.f0.f1, nh_vI (i : Int), ck⟩) (nh_PL l (i + 1))) := ⟨by rw [nh_PL, PP.out]; exact ER_push ME.out _ _ _ _⟩
      have W64 : Aside0 (wrap64 ((i : Int) + 1) = ((i + 1 : Nat) : Int)) := ⟨by have := FF.out.len; unfold wrap64; omega⟩
      have d0 : (0 ≤ (i : Int)) = True := eq_true (by omega)
      have d1 : ((i : Int) < (l.length : Int)) = True := eq_true (by omega)
      have d1n : (i < l.length) = True := eq_true ci
      clear ci hp hno ME
      go_wp2_with (first | ((with_reducible refine gate_dst (N := 6) rfl ?_); refine zbx 6 #[.int .i8 0, .int .i8 0, .int .i8 0, .int .i8 0, .int .i8 0] 62 ?_; intro g6 hg w5 hbox hb; have n_ : _ ∧ _ ∧ _ ∧ _ ∧ _ ∧ _ ∧ _ := ⟨zbs hb, zk BK hb, zk MM hb, Aside0.mk hbox, zg HB hg, zn1 MM hg, zn1 BK hg⟩; clear HB BK MM hbox hb hg; obtain ⟨HB, BK, MM, B6, G6, NM6, NS6⟩ := n_; obtain ⟨q0_, q1_, q2_, q3_, q4_, f0_, f1_, f2_, f3_, f4_⟩ := zB5 B6) | (at_mapUpdate; refine put_event (key := ckey p.f0.f0 p.f0.f1) (val := nh_vI (i : Int)) rfl rfl rfl rfl rfl (mp _ (zf (g := g6) MM NM6).out) (zf (g := g6) MM NM6).out ?_; intro w6 hm1 hm2 hm3; have n_ : _ ∧ _ ∧ _ := ⟨Aside0.mk ((hm2 gs NSM.out).trans (zf (g := g6) BK NS6).out), Aside0.mk hm1, Aside0.mk (hm3 w zbo GM.out)⟩; clear hm1 hm2 hm3 BK MM HB; obtain ⟨BK, MM, HB⟩ := n_))
      go_roundw
      case rel => exact ⟨i + 1, _, _, congrArg (Value.int .i64) W64.out, ⟨CI.out⟩, BK, MM, ME2, HB⟩
      case measure => rw [W64.out]; exact nh_meas_n CI.out
    · have ci0 : decide (i < l.length) = false := decide_eq_false ci
      have ci1 : decide ((i : Int) < (l.length : Int)) = false := decide_eq_false (by omega)
      obtain rfl : i = l.length := by have := HI.out; omega
      have hx4 := zc HB XX.out
      have SG0 : Aside0 (nh_SG w gs gm (.slice A l.length c) (.slice none 0 0) (.slice none 0 0) (.slice none 0 0) (nh_PL l l.length) wr) := ⟨BK.out, ⟨es, ck, MM.out, ME.out⟩, HB.out⟩
      clear BK MM ME
      go_wp2
      clear hx4 HB HI ci ci0 ci1
      go_loopw [44] (fun v44 w' => ∃ (i : Nat) (vc vh vb : Value), v44 = .int .i64 (i : Int) ∧ Aside0 (i ≤ l.length) ∧ Aside0 (nh_SG w gs gm (.slice A l.length c) vc vh vb (nh_PL l l.length) w') ∧ Aside0 (Kd.R (Kd.int .u8) 101 w' w.heap.size (fun _ => True) vc ((l.take i).map fun p => (nh_stp l p 4).1)) ∧ Aside0 (Kd.R k102 102 w' w.heap.size (fun _ => True) vh ((l.take i).map nh_r102)) ∧ Aside0 (Kd.R k103 103 w' w.heap.size (fun _ => True) vb ((l.take i).map (nh_r103 l)))) (fun v44 _ => l.length - (intOf v44).toNat)
      case atStart => exact ⟨0, _, _, _, rfl, ⟨Nat.zero_le _⟩, SG0, ⟨Kd.R_nil _ _ _ _ _⟩, ⟨Kd.R_nil _ _ _ _ _⟩, ⟨Kd.R_nil _ _ _ _ _⟩⟩
      case round =>
        clear SG0
        obtain ⟨i, vc, vh, vb, rfl, HI, SG0, RC, RH, RB⟩ := hrel
        obtain ⟨wo, hwo⟩ : ∃ x, x = wr := ⟨_, rfl⟩
        subst hwo
        by_cases ci : i < l.length
        · have ci0 : decide (i < l.length) = true := decide_eq_true ci
          have ci1 : decide ((i : Int) < (l.length : Int)) = true := decide_eq_true (by omega)
          have CI := Aside0.mk ci
          obtain ⟨ad, hA, hp0, hp1, hp2, hp3, hp4⟩ := at_T62 (Kd.C_below CC.out SG0.out.bl) (i : Int) (by omega) (by omega)
          subst hA
          obtain ⟨p, hp⟩ : ∃ p, rd_T62 l (i : Int) = p := ⟨_, rfl⟩
          rw [hp] at hp0 hp1 hp2 hp3 hp4
          simp only [Int.toNat_natCast] at hp0 hp1 hp2 hp3 hp4
          have PP : Aside0 (l.getD i z62 = p) := ⟨hp⟩
          have W64 : Aside0 (wrap64 ((i : Int) + 1) = ((i + 1 : Nat) : Int)) := ⟨by have := FF.out.len; unfold wrap64; omega⟩
          have d0 : (0 ≤ (i : Int)) = True := eq_true (by omega)
          have d1 : ((i : Int) < (l.length : Int)) = True := eq_true (by omega)
          have d1n : (i < l.length) = True := eq_true ci
          have HW : Aside0 (Below wo.heap.size wo wo) := ⟨Below.refl _ _⟩
          obtain ⟨es, ck, hm0, he0⟩ := SG0.out.mp
          have MM0 := Aside0.mk hm0
          have ME0 := Aside0.mk he0
          clear hm0 he0
          have hu102 := Try.underlying102
          have hu103 := Try.underlying103
          clear ci hp
          go_wp2_with (first | ((with_reducible refine gate_dst (N := 8) rfl ?_); refine zbx 8 #[.int .i8 0, .int .i8 0, .int .i8 0, .int .i8 0, .int .i8 0] 62 ?_; intro g8 hg w5 hbox hb; have n_ : _ ∧ _ ∧ _ := ⟨zbs hb, Aside0.mk hbox, zg HW hg⟩; clear HW hbox hb hg; obtain ⟨HW, B8, G8⟩ := n_; obtain ⟨q0_, q1_, q2_, q3_, q4_, f0_, f1_, f2_, f3_, f4_⟩ := zB5 B8) | ((with_reducible refine gate_dst (N := 10) rfl ?_); refine zbx 10 #[.int .u8 0, .int .u8 0, .int .u8 0, .int .u8 0] 102 ?_; intro g10 hg w6 hbox hb; have n_ : _ ∧ _ ∧ _ ∧ _ ∧ _ := ⟨zbs hb, Aside0.mk (blk_below (zp (l2 := [.int .i8 p.f0.f0, .int .i8 p.f0.f1, .int .i8 p.f1, .int .i8 p.f2, .int .i8 p.f3]) B8) hb), Aside0.mk hbox, zg HW hg, zn1 B8 hg⟩; clear HW B8 hbox hb hg; obtain ⟨HW, B8, B10, G10, N8⟩ := n_) | ((with_reducible refine gate_dst (N := 11) rfl ?_); refine zbx 11 #[.int .i64 0, .int .i64 0, .int .i64 0, .int .i64 0] 103 ?_; intro g11 hg w7 hbox hb; have n_ : _ ∧ _ ∧ _ ∧ _ ∧ _ ∧ _ ∧ _ := ⟨zbs hb, zk B8 hb, zk B10 hb, Aside0.mk hbox, zg HW hg, zn1 B8 hg, zn1 B10 hg⟩; clear HW B8 B10 hbox hb hg; obtain ⟨HW, B8, B10, B11, G11, N9, NA⟩ := n_; have hna_ := NA.out; have hnb_ := Ne.symm NA.out; have z10_ := zB4 B10; have z11_ := zB4 B11; obtain ⟨q0_, q1_, q2_, q3_, f0_, f1_, f2_, f3_⟩ := z10_; obtain ⟨r0_, r1_, r2_, r3_, e0_, e1_, e2_, e3_⟩ := z11_))
          clear q0_ q1_ q2_ q3_ f0_ f1_ f2_ f3_ r0_ r1_ r2_ r3_ e0_ e1_ e2_ e3_ hp0 hp1 hp2 hp3 hp4
          have n_ : _ ∧ _ ∧ _ ∧ _ := ⟨(zf (W := ((((w7.setCell ⟨g10, 0, none⟩ (.int .u8 0)).setCell ⟨g10, 1, none⟩ (.int .u8 0)).setCell ⟨g10, 2, none⟩ (.int .u8 0)).setCell ⟨g10, 3, none⟩ (.int .u8 0))) (g := g10) B8 N8), (Aside0.mk (zp (W := ((((w7.setCell ⟨g10, 0, none⟩ (.int .u8 0)).setCell ⟨g10, 1, none⟩ (.int .u8 0)).setCell ⟨g10, 2, none⟩ (.int .u8 0)).setCell ⟨g10, 3, none⟩ (.int .u8 0))) (l2 := [.int .u8 0, .int .u8 0, .int .u8 0, .int .u8 0]) B10)), (zf (W := ((((w7.setCell ⟨g10, 0, none⟩ (.int .u8 0)).setCell ⟨g10, 1, none⟩ (.int .u8 0)).setCell ⟨g10, 2, none⟩ (.int .u8 0)).setCell ⟨g10, 3, none⟩ (.int .u8 0))) (g := g10) B11 ⟨hnb_⟩), (zba : Aside0 (Below wo.heap.size wo ((((w7.setCell ⟨g10, 0, none⟩ (.int .u8 0)).setCell ⟨g10, 1, none⟩ (.int .u8 0)).setCell ⟨g10, 2, none⟩ (.int .u8 0)).setCell ⟨g10, 3, none⟩ (.int .u8 0))))⟩
          clear B8 B10 B11 HW
          generalize ((((w7.setCell ⟨g10, 0, none⟩ (.int .u8 0)).setCell ⟨g10, 1, none⟩ (.int .u8 0)).setCell ⟨g10, 2, none⟩ (.int .u8 0)).setCell ⟨g10, 3, none⟩ (.int .u8 0)) = w8 at n_ ⊢
          obtain ⟨B8, B10, B11, HW⟩ := n_
          have n_ : _ ∧ _ ∧ _ ∧ _ := ⟨(zf (W := ((((w8.setCell ⟨g11, 0, none⟩ (.int .i64 0)).setCell ⟨g11, 1, none⟩ (.int .i64 0)).setCell ⟨g11, 2, none⟩ (.int .i64 0)).setCell ⟨g11, 3, none⟩ (.int .i64 0))) (g := g11) B8 N9), (zf (W := ((((w8.setCell ⟨g11, 0, none⟩ (.int .i64 0)).setCell ⟨g11, 1, none⟩ (.int .i64 0)).setCell ⟨g11, 2, none⟩ (.int .i64 0)).setCell ⟨g11, 3, none⟩ (.int .i64 0))) (g := g11) B10 NA), (Aside0.mk (zp (W := ((((w8.setCell ⟨g11, 0, none⟩ (.int .i64 0)).setCell ⟨g11, 1, none⟩ (.int .i64 0)).setCell ⟨g11, 2, none⟩ (.int .i64 0)).setCell ⟨g11, 3, none⟩ (.int .i64 0))) (l2 := [.int .i64 0, .int .i64 0, .int .i64 0, .int .i64 0]) B11)), (zba : Aside0 (Below wo.heap.size wo ((((w8.setCell ⟨g11, 0, none⟩ (.int .i64 0)).setCell ⟨g11, 1, none⟩ (.int .i64 0)).setCell ⟨g11, 2, none⟩ (.int .i64 0)).setCell ⟨g11, 3, none⟩ (.int .i64 0))))⟩
          clear B8 B10 B11 HW
          generalize ((((w8.setCell ⟨g11, 0, none⟩ (.int .i64 0)).setCell ⟨g11, 1, none⟩ (.int .i64 0)).setCell ⟨g11, 2, none⟩ (.int .i64 0)).setCell ⟨g11, 3, none⟩ (.int .i64 0)) = w9 at n_ ⊢
          obtain ⟨B8, B10, B11, HW⟩ := n_
          go_loopw [9, 50] (fun v9 v50 w' => ∃ (j : Nat), v9 = .int .u8 (nh_stp l p j).1 ∧ v50 = .int .i64 (j : Int) ∧ Aside0 (j ≤ 4) ∧ Aside0 (Below wo.heap.size wo w') ∧ Aside0 (w'.heap[g8]? = some (.cells #[.int .i8 p.f0.f0, .int .i8 p.f0.f1, .int .i8 p.f1, .int .i8 p.f2, .int .i8 p.f3] 62 (0, 0))) ∧ Aside0 (w'.heap[g10]? = some (.cells (nums .u8 (nh_stp l p j).2.1).toArray 102 (0, 0))) ∧ Aside0 (w'.heap[g11]? = some (.cells (nums .i64 (nh_stp l p j).2.2).toArray 103 (0, 0)))) (fun _ v50 _ => 4 - (intOf v50).toNat)
          case atStart => exact ⟨0, rfl, rfl, ⟨Nat.zero_le _⟩, HW, B8, B10, B11⟩
          case round =>
            clear HW B8 B10 B11
            obtain ⟨j, rfl, rfl, HJ, HW, B8, B10, B11⟩ := hrel
            by_cases cj : j < 4
            · have cj0 : decide (j < 4) = true := decide_eq_true cj
              have cj1 : decide ((j : Int) < 4) = true := decide_eq_true (by omega)
              have CJ := Aside0.mk cj
              obtain ⟨q0_, q1_, q2_, q3_, q4_, f0_, f1_, f2_, f3_, f4_⟩ := zB5 B8
              obtain ⟨⟨x1, x2, x3⟩, hst⟩ : ∃ x, nh_stp l p j = x := ⟨_, rfl⟩
              have ST := Aside0.mk hst
              rw [hst] at B10 B11 ⊢
              dsimp only at B10 B11 ⊢
              have XL : Aside0 (x2.length = 4 ∧ x3.length = 4) := ⟨by have h := nh_stp_len l p j; rw [hst] at h; exact h⟩
              have e0_ : (0 ≤ (j : Int)) = True := eq_true (by omega)
              have e1_ : ((j : Int) < 4) = True := eq_true (by omega)
              have e2_ : (4 ≤ (j : Int)) = False := eq_false (by omega)
              have e3_ : (j < 4) = True := eq_true cj
              have e4_ : (4 ≤ j) = False := eq_false (by omega)
              have W5 : Aside0 (wrap64 ((j : Int) + 1) = ((j + 1 : Nat) : Int)) := ⟨by have := CJ.out; unfold wrap64; omega⟩
              have hn8_ := N8.out
              have hn8b_ := Ne.symm N8.out
              have hn9_ := N9.out
              have hn9b_ := Ne.symm N9.out
              clear cj hst
              obtain ⟨⟨fb, fw⟩, hfl⟩ : ∃ x, nh_fl p (j : Int) = x := ⟨_, rfl⟩
              have FL : Aside0 (impl_Piece_falls.f 10 p.f0.f0 p.f0.f1 p.f1 p.f2 p.f3 (j : Int) = some (fb, fw)) := ⟨by
                have h := nh_getS (z := (false, 0)) (FF.out.falls i CI.out j CJ.out)
                rw [PP.out] at h
                rw [h]
                exact congrArg some hfl⟩
              have HFL := Aside0.mk hfl
              clear hfl
              obtain ⟨⟨y1, y2⟩, hnx⟩ : ∃ x, nh_nxc p (j : Int) = x := ⟨_, rfl⟩
              have NX : Aside0 (impl_Cell_next.f p.f0.f0 p.f0.f1 (j : Int) = some (y1, y2)) := ⟨by rw [nh_nxc_some p j CJ.out, hnx]⟩
              have HNX := Aside0.mk hnx
              obtain ⟨mf, hmf⟩ : ∃ x, mfind (nh_PL l l.length) y1 y2 = x := ⟨_, rfl⟩
              have MF := Aside0.mk hmf
              clear hnx hmf
              cases fb
              · cases mf with
                | none =>
                  go_wp2_with (first | (go_at_call 59; (with_reducible refine (impl_Piece_falls.calls 10 p.f0.f0 p.f0.f1 p.f1 p.f2 p.f3 (j : Int) false fw _ FL.out).mono ?_); rintro e w10 ⟨rfl, hb⟩; have n_ : _ ∧ _ ∧ _ ∧ _ := ⟨zb HW hb, zk B8 hb, zk B10 hb, zk B11 hb⟩; clear HW B8 B10 B11 hb; obtain ⟨HW, B8, B10, B11⟩ := n_; obtain ⟨a0_, a1_, a2_, a3_, a4_, b0_, b1_, b2_, b3_, b4_⟩ := zB5 B8; obtain ⟨c0_, c1_⟩ := nh_numCell B10.out (XL.out.1 ▸ CJ.out); obtain ⟨c2_, c3_⟩ := nh_numCell B11.out (XL.out.2 ▸ CJ.out)) | (go_at_call 61; (with_reducible refine (impl_Cell_next.calls p.f0.f0 p.f0.f1 (j : Int) y1 y2 _ NX.out).mono ?_); rintro e w13 ⟨rfl, hb⟩; have n_ : _ ∧ _ ∧ _ ∧ _ := ⟨(zbs hb : Aside0 (Below wo.heap.size wo w13)), Aside0.mk (blk_below (o := .cells #[.int .i8 p.f0.f0, .int .i8 p.f0.f1, .int .i8 p.f1, .int .i8 p.f2, .int .i8 p.f3] 62 (0, 0)) (by (repeat (first | refine blk_far ?_ N9.out _ | refine blk_far ?_ N8.out _)); exact (zh B8).out) hb), Aside0.mk (blk_below (o := .cells (nums .u8 (x2.set j fw)).toArray 102 (0, 0)) (by refine blk_far ?_ NA.out _; exact nh_numPut (zh B10).out _) hb), Aside0.mk (blk_below (o := .cells (nums .i64 (x3.set j (-1))).toArray 103 (0, 0)) (by refine nh_numPut ?_ _; refine blk_far ?_ (Ne.symm NA.out) _; exact (zh B11).out) hb)⟩; clear HW B8 B10 B11 hb a0_ a1_ a2_ a3_ a4_ b0_ b1_ b2_ b3_ b4_ c0_ c1_ c2_ c3_; obtain ⟨HW, B8, B10, B11⟩ := n_; obtain ⟨c2_, c3_⟩ := nh_numCell (j := j) B11.out (by rw [List.length_set]; exact XL.out.2 ▸ CJ.out)) | ((with_reducible refine gate_dst (N := 76) rfl ?_); refine look_event rfl rfl rfl rfl (v := .tuple #[.int .i64 0, .bool false]) (by have h_ := run_mlook (P := Try.prog) (T := 100) nh_cellKeyI Try.underlying100 (nh_zeroInt _) (blk_below MM0.out HW.out) ME0.out y1 y2 true; rw [MF.out] at h_; exact h_) ?_))
                  go_roundw
                  case rel =>
                    have hs : nh_stp l p (j + 1) = (x1, x2.set j fw, x3.set j (-1)) := by
                      rw [nh_stp, ST.out, HFL.out]
                      have hf : nh_fi l (nh_nxc p (j : Int)) = -1 := by unfold nh_fi; rw [HNX.out]; show (mfind _ y1 y2).getD (-1) = _; rw [MF.out]; rfl
                      rw [hf]
                      rfl
                    refine ⟨j + 1, ?_, congrArg (Value.int .i64) W5.out, ⟨CJ.out⟩, ?_, ?_, ?_, ?_⟩
                    · rw [hs]
                    · exact HW
                    · exact B8
                    · rw [hs]; exact B10
                    · rw [hs]; exact B11
                  case measure => rw [W5.out]; exact nh_meas4 CJ.out
                | some kk =>
                  go_wp2_with (first | (go_at_call 59; (with_reducible refine (impl_Piece_falls.calls 10 p.f0.f0 p.f0.f1 p.f1 p.f2 p.f3 (j : Int) false fw _ FL.out).mono ?_); rintro e w10 ⟨rfl, hb⟩; have n_ : _ ∧ _ ∧ _ ∧ _ := ⟨zb HW hb, zk B8 hb, zk B10 hb, zk B11 hb⟩; clear HW B8 B10 B11 hb; obtain ⟨HW, B8, B10, B11⟩ := n_; obtain ⟨a0_, a1_, a2_, a3_, a4_, b0_, b1_, b2_, b3_, b4_⟩ := zB5 B8; obtain ⟨c0_, c1_⟩ := nh_numCell B10.out (XL.out.1 ▸ CJ.out); obtain ⟨c2_, c3_⟩ := nh_numCell B11.out (XL.out.2 ▸ CJ.out)) | (go_at_call 61; (with_reducible refine (impl_Cell_next.calls p.f0.f0 p.f0.f1 (j : Int) y1 y2 _ NX.out).mono ?_); rintro e w13 ⟨rfl, hb⟩; have n_ : _ ∧ _ ∧ _ ∧ _ := ⟨(zbs hb : Aside0 (Below wo.heap.size wo w13)), Aside0.mk (blk_below (o := .cells #[.int .i8 p.f0.f0, .int .i8 p.f0.f1, .int .i8 p.f1, .int .i8 p.f2, .int .i8 p.f3] 62 (0, 0)) (by (repeat (first | refine blk_far ?_ N9.out _ | refine blk_far ?_ N8.out _)); exact (zh B8).out) hb), Aside0.mk (blk_below (o := .cells (nums .u8 (x2.set j fw)).toArray 102 (0, 0)) (by refine blk_far ?_ NA.out _; exact nh_numPut (zh B10).out _) hb), Aside0.mk (blk_below (o := .cells (nums .i64 (x3.set j (-1))).toArray 103 (0, 0)) (by refine nh_numPut ?_ _; refine blk_far ?_ (Ne.symm NA.out) _; exact (zh B11).out) hb)⟩; clear HW B8 B10 B11 hb a0_ a1_ a2_ a3_ a4_ b0_ b1_ b2_ b3_ b4_ c0_ c1_ c2_ c3_; obtain ⟨HW, B8, B10, B11⟩ := n_; obtain ⟨c2_, c3_⟩ := nh_numCell (j := j) B11.out (by rw [List.length_set]; exact XL.out.2 ▸ CJ.out)) | ((with_reducible refine gate_dst (N := 76) rfl ?_); refine look_event rfl rfl rfl rfl (v := .tuple #[.int .i64 kk, .bool true]) (by have h_ := run_mlook (P := Try.prog) (T := 100) nh_cellKeyI Try.underlying100 (nh_zeroInt _) (blk_below MM0.out HW.out) ME0.out y1 y2 true; rw [MF.out] at h_; exact h_) ?_))
                  go_roundw
                  case rel =>
                    have hs : nh_stp l p (j + 1) = (x1, x2.set j fw, x3.set j kk) := by
                      rw [nh_stp, ST.out, HFL.out]
                      have hf : nh_fi l (nh_nxc p (j : Int)) = kk := by unfold nh_fi; rw [HNX.out]; show (mfind _ y1 y2).getD (-1) = _; rw [MF.out]; rfl
                      rw [hf]
                      rfl
                    refine ⟨j + 1, ?_, congrArg (Value.int .i64) W5.out, ⟨CJ.out⟩, ?_, ?_, ?_, ?_⟩
                    · rw [hs]
                    · exact zba
                    · exact ⟨blk_far B8.out N9.out _⟩
                    · rw [hs]; exact ⟨blk_far B10.out NA.out _⟩
                    · rw [hs]; exact ⟨by have h := nh_numPut (j := j) B11.out kk; rw [List.set_set] at h; exact h⟩
                  case measure => rw [W5.out]; exact nh_meas4 CJ.out
              · cases mf with
                | none =>
                  go_wp2_with (first | (go_at_call 59; (with_reducible refine (impl_Piece_falls.calls 10 p.f0.f0 p.f0.f1 p.f1 p.f2 p.f3 (j : Int) true fw _ FL.out).mono ?_); rintro e w10 ⟨rfl, hb⟩; have n_ : _ ∧ _ ∧ _ ∧ _ := ⟨zb HW hb, zk B8 hb, zk B10 hb, zk B11 hb⟩; clear HW B8 B10 B11 hb; obtain ⟨HW, B8, B10, B11⟩ := n_; obtain ⟨a0_, a1_, a2_, a3_, a4_, b0_, b1_, b2_, b3_, b4_⟩ := zB5 B8; obtain ⟨c0_, c1_⟩ := nh_numCell B10.out (XL.out.1 ▸ CJ.out); obtain ⟨c2_, c3_⟩ := nh_numCell B11.out (XL.out.2 ▸ CJ.out)) | ((with_reducible refine gate_dst (N := 62) rfl ?_); refine Kd.R_lit (Kd.int .i64) _ 3 ?hg (N := 62) ?hd (xs := ([(j : Int)] : List Int)) (inner := [.int .i64 (j : Int)]) (ok := fun _ => True) (okp := fun _ => True) ?hr ?hp (fun _ hk => hk) trivial (Below.refl _ _) (Nat.le_refl _) (by simp) ?_; (case hd => rfl); (case hg => rfl); (case hr => first | (go_simp; done) | (go_simp; rfl)); (case hp => exact (Reps.one (show Kd.M (Kd.int .i64) _ _ _ (j : Int) [.int .i64 (j : Int)] from rfl) (Reps.none _ _))); intro v62 w11 ho hb hgr_ hnew_; have n_ : _ ∧ _ ∧ _ ∧ _ := ⟨zb HW hb, zk B8 hb, zk B10 hb, zk B11 hb⟩; clear HW B8 B10 B11 hb hgr_ hnew_ a0_ a1_ a2_ a3_ a4_ b0_ b1_ b2_ b3_ b4_ c0_ c1_ c2_ c3_; obtain ⟨HW, B8, B10, B11⟩ := n_; obtain ⟨a0_, a1_, a2_, a3_, a4_, b0_, b1_, b2_, b3_, b4_⟩ := zB5 B8; obtain ⟨c0_, c1_⟩ := nh_numCell B10.out (XL.out.1 ▸ CJ.out); obtain ⟨c2_, c3_⟩ := nh_numCell B11.out (XL.out.2 ▸ CJ.out); obtain ⟨A62, k62_, e62⟩ := Kd.R_slice ho; subst e62; have HS62 := Aside0.mk ho; clear ho) | (go_at_call 60; refine (impl_sidesOf.calls 10 A62 k62_ [(j : Int)] (nh_so (j : Int)) _ (Kd.R_reads' HS62.out).2.2 (Kd.R_reads' HS62.out).2.1 (nh_so_some ⟨j, CJ.out⟩)).mono ?_; rintro e w12 ⟨rfl, ⟨nd_, rfl⟩⟩; clear HS62) | (go_at_call 61; (with_reducible refine (impl_Cell_next.calls p.f0.f0 p.f0.f1 (j : Int) y1 y2 _ NX.out).mono ?_); rintro e w13 ⟨rfl, hb⟩; have n_ : _ ∧ _ ∧ _ ∧ _ := ⟨(zbs hb : Aside0 (Below wo.heap.size wo w13)), Aside0.mk (blk_below (o := .cells #[.int .i8 p.f0.f0, .int .i8 p.f0.f1, .int .i8 p.f1, .int .i8 p.f2, .int .i8 p.f3] 62 (0, 0)) (by (repeat (first | refine blk_far ?_ N9.out _ | refine blk_far ?_ N8.out _)); exact (zh B8).out) hb), Aside0.mk (blk_below (o := .cells (nums .u8 (x2.set j fw)).toArray 102 (0, 0)) (by refine blk_far ?_ NA.out _; exact nh_numPut (zh B10).out _) hb), Aside0.mk (blk_below (o := .cells (nums .i64 (x3.set j (-1))).toArray 103 (0, 0)) (by refine nh_numPut ?_ _; refine blk_far ?_ (Ne.symm NA.out) _; exact (zh B11).out) hb)⟩; clear HW B8 B10 B11 hb a0_ a1_ a2_ a3_ a4_ b0_ b1_ b2_ b3_ b4_ c0_ c1_ c2_ c3_; obtain ⟨HW, B8, B10, B11⟩ := n_; obtain ⟨c2_, c3_⟩ := nh_numCell (j := j) B11.out (by rw [List.length_set]; exact XL.out.2 ▸ CJ.out)) | ((with_reducible refine gate_dst (N := 76) rfl ?_); refine look_event rfl rfl rfl rfl (v := .tuple #[.int .i64 0, .bool false]) (by have h_ := run_mlook (P := Try.prog) (T := 100) nh_cellKeyI Try.underlying100 (nh_zeroInt _) (blk_below MM0.out HW.out) ME0.out y1 y2 true; rw [MF.out] at h_; exact h_) ?_))
                  go_roundw
                  case rel =>
                    have hs : nh_stp l p (j + 1) = (Go.bits .or .u8 x1 (nh_so (j : Int)), x2.set j fw, x3.set j (-1)) := by
                      rw [nh_stp, ST.out, HFL.out]
                      have hf : nh_fi l (nh_nxc p (j : Int)) = -1 := by unfold nh_fi; rw [HNX.out]; show (mfind _ y1 y2).getD (-1) = _; rw [MF.out]; rfl
                      rw [hf]
                      rfl
                    refine ⟨j + 1, ?_, congrArg (Value.int .i64) W5.out, ⟨CJ.out⟩, ?_, ?_, ?_, ?_⟩
                    · rw [hs]
                    · exact HW
                    · exact B8
                    · rw [hs]; exact B10
                    · rw [hs]; exact B11
                  case measure => rw [W5.out]; exact nh_meas4 CJ.out
                | some kk =>
                  go_wp2_with (first | (go_at_call 59; (with_reducible refine (impl_Piece_falls.calls 10 p.f0.f0 p.f0.f1 p.f1 p.f2 p.f3 (j : Int) true fw _ FL.out).mono ?_); rintro e w10 ⟨rfl, hb⟩; have n_ : _ ∧ _ ∧ _ ∧ _ := ⟨zb HW hb, zk B8 hb, zk B10 hb, zk B11 hb⟩; clear HW B8 B10 B11 hb; obtain ⟨HW, B8, B10, B11⟩ := n_; obtain ⟨a0_, a1_, a2_, a3_, a4_, b0_, b1_, b2_, b3_, b4_⟩ := zB5 B8; obtain ⟨c0_, c1_⟩ := nh_numCell B10.out (XL.out.1 ▸ CJ.out); obtain ⟨c2_, c3_⟩ := nh_numCell B11.out (XL.out.2 ▸ CJ.out)) | ((with_reducible refine gate_dst (N := 62) rfl ?_); refine Kd.R_lit (Kd.int .i64) _ 3 ?hg (N := 62) ?hd (xs := ([(j : Int)] : List Int)) (inner := [.int .i64 (j : Int)]) (ok := fun _ => True) (okp := fun _ => True) ?hr ?hp (fun _ hk => hk) trivial (Below.refl _ _) (Nat.le_refl _) (by simp) ?_; (case hd => rfl); (case hg => rfl); (case hr => first | (go_simp; done) | (go_simp; rfl)); (case hp => exact (Reps.one (show Kd.M (Kd.int .i64) _ _ _ (j : Int) [.int .i64 (j : Int)] from rfl) (Reps.none _ _))); intro v62 w11 ho hb hgr_ hnew_; have n_ : _ ∧ _ ∧ _ ∧ _ := ⟨zb HW hb, zk B8 hb, zk B10 hb, zk B11 hb⟩; clear HW B8 B10 B11 hb hgr_ hnew_ a0_ a1_ a2_ a3_ a4_ b0_ b1_ b2_ b3_ b4_ c0_ c1_ c2_ c3_; obtain ⟨HW, B8, B10, B11⟩ := n_; obtain ⟨a0_, a1_, a2_, a3_, a4_, b0_, b1_, b2_, b3_, b4_⟩ := zB5 B8; obtain ⟨c0_, c1_⟩ := nh_numCell B10.out (XL.out.1 ▸ CJ.out); obtain ⟨c2_, c3_⟩ := nh_numCell B11.out (XL.out.2 ▸ CJ.out); obtain ⟨A62, k62_, e62⟩ := Kd.R_slice ho; subst e62; have HS62 := Aside0.mk ho; clear ho) | (go_at_call 60; refine (impl_sidesOf.calls 10 A62 k62_ [(j : Int)] (nh_so (j : Int)) _ (Kd.R_reads' HS62.out).2.2 (Kd.R_reads' HS62.out).2.1 (nh_so_some ⟨j, CJ.out⟩)).mono ?_; rintro e w12 ⟨rfl, ⟨nd_, rfl⟩⟩; clear HS62) | (go_at_call 61; (with_reducible refine (impl_Cell_next.calls p.f0.f0 p.f0.f1 (j : Int) y1 y2 _ NX.out).mono ?_); rintro e w13 ⟨rfl, hb⟩; have n_ : _ ∧ _ ∧ _ ∧ _ := ⟨(zbs hb : Aside0 (Below wo.heap.size wo w13)), Aside0.mk (blk_below (o := .cells #[.int .i8 p.f0.f0, .int .i8 p.f0.f1, .int .i8 p.f1, .int .i8 p.f2, .int .i8 p.f3] 62 (0, 0)) (by (repeat (first | refine blk_far ?_ N9.out _ | refine blk_far ?_ N8.out _)); exact (zh B8).out) hb), Aside0.mk (blk_below (o := .cells (nums .u8 (x2.set j fw)).toArray 102 (0, 0)) (by refine blk_far ?_ NA.out _; exact nh_numPut (zh B10).out _) hb), Aside0.mk (blk_below (o := .cells (nums .i64 (x3.set j (-1))).toArray 103 (0, 0)) (by refine nh_numPut ?_ _; refine blk_far ?_ (Ne.symm NA.out) _; exact (zh B11).out) hb)⟩; clear HW B8 B10 B11 hb a0_ a1_ a2_ a3_ a4_ b0_ b1_ b2_ b3_ b4_ c0_ c1_ c2_ c3_; obtain ⟨HW, B8, B10, B11⟩ := n_; obtain ⟨c2_, c3_⟩ := nh_numCell (j := j) B11.out (by rw [List.length_set]; exact XL.out.2 ▸ CJ.out)) | ((with_reducible refine gate_dst (N := 76) rfl ?_); refine look_event rfl rfl rfl rfl (v := .tuple #[.int .i64 kk, .bool true]) (by have h_ := run_mlook (P := Try.prog) (T := 100) nh_cellKeyI Try.underlying100 (nh_zeroInt _) (blk_below MM0.out HW.out) ME0.out y1 y2 true; rw [MF.out] at h_; exact h_) ?_))
                  go_roundw
                  case rel =>
                    have hs : nh_stp l p (j + 1) = (Go.bits .or .u8 x1 (nh_so (j : Int)), x2.set j fw, x3.set j kk) := by
                      rw [nh_stp, ST.out, HFL.out]
                      have hf : nh_fi l (nh_nxc p (j : Int)) = kk := by unfold nh_fi; rw [HNX.out]; show (mfind _ y1 y2).getD (-1) = _; rw [MF.out]; rfl
                      rw [hf]
                      rfl
                    refine ⟨j + 1, ?_, congrArg (Value.int .i64) W5.out, ⟨CJ.out⟩, ?_, ?_, ?_, ?_⟩
                    · rw [hs]
                    · exact zba
                    · exact ⟨blk_far B8.out N9.out _⟩
                    · rw [hs]; exact ⟨blk_far B10.out NA.out _⟩
                    · rw [hs]; exact ⟨by have h := nh_numPut (j := j) B11.out kk; rw [List.set_set] at h; exact h⟩
                  case measure => rw [W5.out]; exact nh_meas4 CJ.out
            · have cj0 : decide (j < 4) = false := decide_eq_false cj
              have cj1 : decide ((j : Int) < 4) = false := decide_eq_false (by omega)
              obtain rfl : j = 4 := by have := HJ.out; omega
              go_wp2
              obtain ⟨wi, hwi⟩ : ∃ x, x = wr := ⟨_, rfl⟩
              subst hwi
              have IV0 : Aside0 (nh_IV w gs g10 g11 gm #[.slice (some ad) l.length c, vc, vh, vb] #[.int .u8 (nh_r102 p).f0, .int .u8 (nh_r102 p).f1, .int .u8 (nh_r102 p).f2, .int .u8 (nh_r102 p).f3] #[.int .i64 (nh_r103 l p).f0, .int .i64 (nh_r103 l p).f1, .int .i64 (nh_r103 l p).f2, .int .i64 (nh_r103 l p).f3] (nh_PL l l.length) wi.drew) := ⟨(SG0.out.below HW.out).st, by have h := B10.out; rw [nh_stp_h] at h; exact h, by have h := B11.out; rw [nh_stp_b] at h; exact h, (SG0.out.below HW.out).mp, below_drew1 (SG0.out.below HW.out).bl⟩
              have OC : Aside0 (nh_OR (Kd.int .u8) 101 w g10 g11 vc ((l.take i).map fun p => (nh_stp l p 4).1) wi.drew) := ⟨Kd.R_drew (Kd.R_below (nh_or_two RC.out G10.out G11.out) HW.out)⟩
              have OH : Aside0 (nh_OR k102 102 w g10 g11 vh ((l.take i).map nh_r102) wi.drew) := ⟨Kd.R_drew (Kd.R_below (nh_or_two RH.out G10.out G11.out) HW.out)⟩
              have OB : Aside0 (nh_OR k103 103 w g10 g11 vb ((l.take i).map (nh_r103 l)) wi.drew) := ⟨Kd.R_drew (Kd.R_below (nh_or_two RB.out G10.out G11.out) HW.out)⟩
              clear SG0 RC RH RB B8 B10 B11 HW
              have hSS : ∀ w', nh_IV w gs g10 g11 gm #[.slice (some ad) l.length c, vc, vh, vb] #[.int .u8 (nh_r102 p).f0, .int .u8 (nh_r102 p).f1, .int .u8 (nh_r102 p).f2, .int .u8 (nh_r102 p).f3] #[.int .i64 (nh_r103 l p).f0, .int .i64 (nh_r103 l p).f1, .int .i64 (nh_r103 l p).f2, .int .i64 (nh_r103 l p).f3] (nh_PL l l.length) w' → (w'.cell? ⟨gs, 1, none⟩ = some vc ∧ w'.cell? ⟨gs, 2, none⟩ = some vh ∧ w'.cell? ⟨gs, 3, none⟩ = some vb ∧ w'.cell? ⟨g10, 0, none⟩ = some (.int .u8 (nh_r102 p).f0) ∧ w'.cell? ⟨g10, 1, none⟩ = some (.int .u8 (nh_r102 p).f1) ∧ w'.cell? ⟨g10, 2, none⟩ = some (.int .u8 (nh_r102 p).f2) ∧ w'.cell? ⟨g10, 3, none⟩ = some (.int .u8 (nh_r102 p).f3) ∧ w'.cell? ⟨g11, 0, none⟩ = some (.int .i64 (nh_r103 l p).f0) ∧ w'.cell? ⟨g11, 1, none⟩ = some (.int .i64 (nh_r103 l p).f1) ∧ w'.cell? ⟨g11, 2, none⟩ = some (.int .i64 (nh_r103 l p).f2) ∧ w'.cell? ⟨g11, 3, none⟩ = some (.int .i64 (nh_r103 l p).f3)) := fun w' h => ⟨(blk_cell h.st 1).trans rfl, (blk_cell h.st 2).trans rfl, (blk_cell h.st 3).trans rfl, (blk_cell h.b10 0).trans rfl, (blk_cell h.b10 1).trans rfl, (blk_cell h.b10 2).trans rfl, (blk_cell h.b10 3).trans rfl, (blk_cell h.b11 0).trans rfl, (blk_cell h.b11 1).trans rfl, (blk_cell h.b11 2).trans rfl, (blk_cell h.b11 3).trans rfl⟩
              refine start_ (n := 33) (S := fun w' => w'.cell? ⟨gs, 1, none⟩ = some vc ∧ w'.cell? ⟨gs, 2, none⟩ = some vh ∧ w'.cell? ⟨gs, 3, none⟩ = some vb ∧ w'.cell? ⟨g10, 0, none⟩ = some (.int .u8 (nh_r102 p).f0) ∧ w'.cell? ⟨g10, 1, none⟩ = some (.int .u8 (nh_r102 p).f1) ∧ w'.cell? ⟨g10, 2, none⟩ = some (.int .u8 (nh_r102 p).f2) ∧ w'.cell? ⟨g10, 3, none⟩ = some (.int .u8 (nh_r102 p).f3) ∧ w'.cell? ⟨g11, 0, none⟩ = some (.int .i64 (nh_r103 l p).f0) ∧ w'.cell? ⟨g11, 1, none⟩ = some (.int .i64 (nh_r103 l p).f1) ∧ w'.cell? ⟨g11, 2, none⟩ = some (.int .i64 (nh_r103 l p).f2) ∧ w'.cell? ⟨g11, 3, none⟩ = some (.int .i64 (nh_r103 l p).f3)) (ds := [26, 29, 32]) #[false, false, false, false, false, false, false, false, false, false, false, false, false, false, false, false, false, false, false, false, false, false, false, false, false, false, false, false, false, false, false, false, false] (by kernel_rfl) rfl rfl (hSS _ IV0.out) (fun hHeld => ?_); refine with_tabW nh_stg.tab22 nh_stg.bits22 (fun HT_ HW_ => ?_)
              generalize wi.drew = wd at IV0 OC OH OB hHeld ⊢
              refine pure_ (i := 0) (N := some 84) (v := ?_) (a' := ?_) #[true, false, false, false, false, false, false, false, false, false, false, false, false, false, false, false, false, false, false, false, false, false, false, false, false, false, false, false, false, false, false, false, false] rfl rfl (any_of HT_.out (by kernel_rfl)) (fun _ _ _ h => h) (Or.inl ⟨by rfl, ?_⟩) ?_ ?_
              rotate_left
              · intro w'
                go_simp
                with_reducible rfl
              rotate_left
              · simp only [Act.put, List.setIfInBounds_toArray, List.set_cons_zero, List.set_cons_succ, i64_w, i32_w]
                rfl
              refine pure_ (i := 1) (N := some 85) (v := ?_) (a' := ?_) #[true, true, false, false, false, false, false, false, false, false, false, false, false, false, false, false, false, false, false, false, false, false, false, false, false, false, false, false, false, false, false, false, false] rfl rfl (any_of HT_.out (by kernel_rfl)) (fun _ _ _ h => h) (Or.inl ⟨by rfl, ?_⟩) ?_ ?_
              rotate_left
              · intro w'
                go_simp
                with_reducible rfl
              rotate_left
              · simp only [Act.put, List.setIfInBounds_toArray, List.set_cons_zero, List.set_cons_succ, i64_w, i32_w]
                rfl
              refine pure_ (i := 2) (N := some 86) (v := ?_) (a' := ?_) #[true, true, true, false, false, false, false, false, false, false, false, false, false, false, false, false, false, false, false, false, false, false, false, false, false, false, false, false, false, false, false, false, false] rfl rfl (any_of HT_.out (by kernel_rfl)) (fun _ _ _ h => h) (Or.inl ⟨by rfl, ?_⟩) ?_ ?_
              rotate_left
              · intro w'
                go_simp
                with_reducible rfl
              rotate_left
              · simp only [Act.put, List.setIfInBounds_toArray, List.set_cons_zero, List.set_cons_succ, i64_w, i32_w]
                rfl
              refine pure_ (i := 3) (N := some 87) (v := ?_) (a' := ?_) #[true, true, true, true, false, false, false, false, false, false, false, false, false, false, false, false, false, false, false, false, false, false, false, false, false, false, false, false, false, false, false, false, false] rfl rfl (any_of HT_.out (by kernel_rfl)) (fun _ _ _ h => h) (Or.inl ⟨by rfl, ?_⟩) ?_ ?_
              rotate_left
              · intro w'
                go_simp
                with_reducible rfl
              rotate_left
              · simp only [Act.put, List.setIfInBounds_toArray, List.set_cons_zero, List.set_cons_succ, i64_w, i32_w]
                rfl
              refine pure_ (i := 4) (N := some 88) (v := ?_) (a' := ?_) #[true, true, true, true, true, false, false, false, false, false, false, false, false, false, false, false, false, false, false, false, false, false, false, false, false, false, false, false, false, false, false, false, false] rfl rfl (any_of HT_.out (by kernel_rfl)) (fun _ _ _ h => h) (Or.inl ⟨by rfl, ?_⟩) ?_ ?_
              rotate_left
              · intro w'
                go_simp
                with_reducible rfl
              rotate_left
              · simp only [Act.put, List.setIfInBounds_toArray, List.set_cons_zero, List.set_cons_succ, i64_w, i32_w]
                rfl
              refine pure_ (i := 5) (N := some 89) (v := ?_) (a' := ?_) #[true, true, true, true, true, true, false, false, false, false, false, false, false, false, false, false, false, false, false, false, false, false, false, false, false, false, false, false, false, false, false, false, false] rfl rfl (any_of HT_.out (by kernel_rfl)) (fun _ _ _ h => h) (Or.inl ⟨by rfl, ?_⟩) ?_ ?_
              rotate_left
              · intro w'
                go_simp
                with_reducible rfl
              rotate_left
              · simp only [Act.put, List.setIfInBounds_toArray, List.set_cons_zero, List.set_cons_succ, i64_w, i32_w]
                rfl
              refine take_ (i := 6) (N := some 90) (v := ?_) (a' := ?_) #[true, true, true, true, true, true, true, false, false, false, false, false, false, false, false, false, false, false, false, false, false, false, false, false, false, false, false, false, false, false, false, false, false] rfl rfl (take_ofW HT_.out HW_.out (by kernel_rfl)) (fun _ _ _ h => h) (Or.inl ⟨by rfl, ?_⟩) hHeld ?_ ?_
              rotate_left
              · rintro w' ⟨s0, s1, s2, s3, s4, s5, s6, s7, s8, s9, s10⟩
                go_simp
                with_reducible rfl
              rotate_left
              · simp only [Act.put, List.setIfInBounds_toArray, List.set_cons_zero, List.set_cons_succ, i64_w, i32_w]
                rfl
              refine pure_ (i := 7) (N := some 91) (v := ?_) (a' := ?_) #[true, true, true, true, true, true, true, true, false, false, false, false, false, false, false, false, false, false, false, false, false, false, false, false, false, false, false, false, false, false, false, false, false] rfl rfl (any_of HT_.out (by kernel_rfl)) (fun _ _ _ h => h) (Or.inl ⟨by rfl, ?_⟩) ?_ ?_
              rotate_left
              · intro w'
                go_simp
                with_reducible rfl
              rotate_left
              · simp only [Act.put, List.setIfInBounds_toArray, List.set_cons_zero, List.set_cons_succ, i64_w, i32_w]
                rfl
              refine pure_ (i := 10) (N := some 94) (v := ?_) (a' := ?_) #[true, true, true, true, true, true, true, true, false, false, true, false, false, false, false, false, false, false, false, false, false, false, false, false, false, false, false, false, false, false, false, false, false] rfl rfl (any_of HT_.out (by kernel_rfl)) (fun _ _ _ h => h) (Or.inl ⟨by rfl, ?_⟩) ?_ ?_
              rotate_left
              · intro w'
                go_simp
                with_reducible rfl
              rotate_left
              · simp only [Act.put, List.setIfInBounds_toArray, List.set_cons_zero, List.set_cons_succ, i64_w, i32_w]
                rfl
              refine pure_ (i := 11) (N := some 95) (v := ?_) (a' := ?_) #[true, true, true, true, true, true, true, true, false, false, true, true, false, false, false, false, false, false, false, false, false, false, false, false, false, false, false, false, false, false, false, false, false] rfl rfl (any_of HT_.out (by kernel_rfl)) (fun _ _ _ h => h) (Or.inl ⟨by rfl, ?_⟩) ?_ ?_
              rotate_left
              · intro w'
                go_simp
                with_reducible rfl
              rotate_left
              · simp only [Act.put, List.setIfInBounds_toArray, List.set_cons_zero, List.set_cons_succ, i64_w, i32_w]
                rfl
              refine pure_ (i := 12) (N := some 96) (v := ?_) (a' := ?_) #[true, true, true, true, true, true, true, true, false, false, true, true, true, false, false, false, false, false, false, false, false, false, false, false, false, false, false, false, false, false, false, false, false] rfl rfl (any_of HT_.out (by kernel_rfl)) (fun _ _ _ h => h) (Or.inl ⟨by rfl, ?_⟩) ?_ ?_
              rotate_left
              · intro w'
                go_simp
                with_reducible rfl
              rotate_left
              · simp only [Act.put, List.setIfInBounds_toArray, List.set_cons_zero, List.set_cons_succ, i64_w, i32_w]
                rfl
              refine take_ (i := 13) (N := some 97) (v := ?_) (a' := ?_) #[true, true, true, true, true, true, true, true, false, false, true, true, true, true, false, false, false, false, false, false, false, false, false, false, false, false, false, false, false, false, false, false, false] rfl rfl (take_ofW HT_.out HW_.out (by kernel_rfl)) (fun _ _ _ h => h) (Or.inl ⟨by rfl, ?_⟩) hHeld ?_ ?_
              rotate_left
              · rintro w' ⟨s0, s1, s2, s3, s4, s5, s6, s7, s8, s9, s10⟩
                go_simp
                with_reducible rfl
              rotate_left
              · simp only [Act.put, List.setIfInBounds_toArray, List.set_cons_zero, List.set_cons_succ, i64_w, i32_w]
                rfl
              refine take_ (i := 14) (N := some 98) (v := ?_) (a' := ?_) #[true, true, true, true, true, true, true, true, false, false, true, true, true, true, true, false, false, false, false, false, false, false, false, false, false, false, false, false, false, false, false, false, false] rfl rfl (take_ofW HT_.out HW_.out (by kernel_rfl)) (fun _ _ _ h => h) (Or.inl ⟨by rfl, ?_⟩) hHeld ?_ ?_
              rotate_left
              · rintro w' ⟨s0, s1, s2, s3, s4, s5, s6, s7, s8, s9, s10⟩
                go_simp
                with_reducible rfl
              rotate_left
              · simp only [Act.put, List.setIfInBounds_toArray, List.set_cons_zero, List.set_cons_succ, i64_w, i32_w]
                rfl
              refine pure_ (i := 17) (N := some 101) (v := ?_) (a' := ?_) #[true, true, true, true, true, true, true, true, false, false, true, true, true, true, true, false, false, true, false, false, false, false, false, false, false, false, false, false, false, false, false, false, false] rfl rfl (any_of HT_.out (by kernel_rfl)) (fun _ _ _ h => h) (Or.inl ⟨by rfl, ?_⟩) ?_ ?_
              rotate_left
              · intro w'
                go_simp
                with_reducible rfl
              rotate_left
              · simp only [Act.put, List.setIfInBounds_toArray, List.set_cons_zero, List.set_cons_succ, i64_w, i32_w]
                rfl
              refine pure_ (i := 18) (N := some 102) (v := ?_) (a' := ?_) #[true, true, true, true, true, true, true, true, false, false, true, true, true, true, true, false, false, true, true, false, false, false, false, false, false, false, false, false, false, false, false, false, false] rfl rfl (any_of HT_.out (by kernel_rfl)) (fun _ _ _ h => h) (Or.inl ⟨by rfl, ?_⟩) ?_ ?_
              rotate_left
              · intro w'
                go_simp
                with_reducible rfl
              rotate_left
              · simp only [Act.put, List.setIfInBounds_toArray, List.set_cons_zero, List.set_cons_succ, i64_w, i32_w]
                rfl
              refine pure_ (i := 19) (N := some 103) (v := ?_) (a' := ?_) #[true, true, true, true, true, true, true, true, false, false, true, true, true, true, true, false, false, true, true, true, false, false, false, false, false, false, false, false, false, false, false, false, false] rfl rfl (any_of HT_.out (by kernel_rfl)) (fun _ _ _ h => h) (Or.inl ⟨by rfl, ?_⟩) ?_ ?_
              rotate_left
              · intro w'
                go_simp
                with_reducible rfl
              rotate_left
              · simp only [Act.put, List.setIfInBounds_toArray, List.set_cons_zero, List.set_cons_succ, i64_w, i32_w]
                rfl
              refine take_ (i := 20) (N := some 104) (v := ?_) (a' := ?_) #[true, true, true, true, true, true, true, true, false, false, true, true, true, true, true, false, false, true, true, true, true, false, false, false, false, false, false, false, false, false, false, false, false] rfl rfl (take_ofW HT_.out HW_.out (by kernel_rfl)) (fun _ _ _ h => h) (Or.inl ⟨by rfl, ?_⟩) hHeld ?_ ?_
              rotate_left
              · rintro w' ⟨s0, s1, s2, s3, s4, s5, s6, s7, s8, s9, s10⟩
                go_simp
                with_reducible rfl
              rotate_left
              · simp only [Act.put, List.setIfInBounds_toArray, List.set_cons_zero, List.set_cons_succ, i64_w, i32_w]
                rfl
              refine take_ (i := 21) (N := some 105) (v := ?_) (a' := ?_) #[true, true, true, true, true, true, true, true, false, false, true, true, true, true, true, false, false, true, true, true, true, true, false, false, false, false, false, false, false, false, false, false, false] rfl rfl (take_ofW HT_.out HW_.out (by kernel_rfl)) (fun _ _ _ h => h) (Or.inl ⟨by rfl, ?_⟩) hHeld ?_ ?_
              rotate_left
              · rintro w' ⟨s0, s1, s2, s3, s4, s5, s6, s7, s8, s9, s10⟩
                go_simp
                with_reducible rfl
              rotate_left
              · simp only [Act.put, List.setIfInBounds_toArray, List.set_cons_zero, List.set_cons_succ, i64_w, i32_w]
                rfl
              refine nh_orders22 (w := w) (can := (nh_stp l p 4).1) (h4 := nh_r102 p) (b4 := nh_r103 l p) HT_ hSS rfl (by rw [List.length_map, List.length_take]; have := FF.out.len; omega) (by rw [List.length_map, List.length_take]; have := FF.out.len; omega) (by rw [List.length_map, List.length_take]; have := FF.out.len; omega) rfl rfl rfl rfl rfl rfl rfl rfl rfl rfl rfl rfl rfl rfl rfl rfl rfl rfl rfl rfl rfl rfl rfl rfl rfl rfl rfl rfl rfl rfl ?_ wd IV0.out OC.out OH.out OB.out
              intro x92 x93 x99 x100 x106 x107 W hI hA hH hB
              clear hHeld IV0 OC OH OB hSS
              have IV1 := Aside0.mk hI
              have OA1 := Aside0.mk hA
              have OH1 := Aside0.mk hH
              have OB1 := Aside0.mk hB
              clear hI hA hH hB
              obtain ⟨A1_, c1_, ea⟩ := Kd.R_slice OA1.out
              obtain ⟨n1_, hn1_⟩ : ∃ n, n = (((l.take i).map fun p => (nh_stp l p 4).1) ++ [(nh_stp l p 4).1]).length := ⟨_, rfl⟩
              rw [← hn1_] at ea
              subst ea
              clear hn1_
              obtain ⟨A2_, c2_, ea⟩ := Kd.R_slice OH1.out
              obtain ⟨n2_, hn2_⟩ : ∃ n, n = ((l.take i).map nh_r102 ++ [nh_r102 p]).length := ⟨_, rfl⟩
              rw [← hn2_] at ea
              subst ea
              clear hn2_
              obtain ⟨A3_, c3_, ea⟩ := Kd.R_slice OB1.out
              obtain ⟨n3_, hn3_⟩ : ∃ n, n = ((l.take i).map (nh_r103 l) ++ [nh_r103 l p]).length := ⟨_, rfl⟩
              rw [← hn3_] at ea
              subst ea
              clear hn3_
              have BS := Aside0.mk IV1.out.st
              obtain ⟨q0_, q1_, q2_, q3_, f0_, f1_, f2_, f3_⟩ := zB4 BS
              have hu95 := Try.underlying95
              have hu96 := Try.underlying96
              have hu97 := Try.underlying97
              refine norm_ (a' := ?_) ?_ ?_
              rotate_left
              · unfold nh_FR
                simp only [Act.put, List.setIfInBounds_toArray, List.set_cons_zero, List.set_cons_succ]
                rfl
              refine pure_ (i := 24) (N := some 108) (v := ?_) (a' := ?_) #[true, true, true, true, true, true, true, true, true, true, true, true, true, true, true, true, true, true, true, true, true, true, true, true, true, false, false, false, false, false, false, false, false] rfl rfl (any_of HT_.out (by kernel_rfl)) (fun _ _ _ h => h) (Or.inl ⟨by rfl, ?_⟩) ?_ ?_
              rotate_left
              · intro w'
                go_simp
                with_reducible rfl
              rotate_left
              · simp only [Act.put, List.setIfInBounds_toArray, List.set_cons_zero, List.set_cons_succ, i64_w, i32_w]
                rfl
              refine pure_ (i := 25) (N := some 109) (v := ?_) (a' := ?_) #[true, true, true, true, true, true, true, true, true, true, true, true, true, true, true, true, true, true, true, true, true, true, true, true, true, true, false, false, false, false, false, false, false] rfl rfl (any_of HT_.out (by kernel_rfl)) (fun _ _ _ h => h) (Or.inl ⟨by rfl, ?_⟩) ?_ ?_
              rotate_left
              · intro w'
                go_simp
                with_reducible rfl
              rotate_left
              · simp only [Act.put, List.setIfInBounds_toArray, List.set_cons_zero, List.set_cons_succ, i64_w, i32_w]
                rfl
              refine last_ (i := 26) (N := none) #[true, true, true, true, true, true, true, true, true, true, true, true, true, true, true, true, true, true, true, true, true, true, true, true, true, true, true, false, false, false, false, false, false] rfl rfl (one_of HT_.out (by kernel_rfl)) (by decide) (fun K hK => ?_)
              refine skip_ (w1 := ?_) (by rfl) rfl ?_ ?_
              rotate_left
              · go_simp
                rfl
              refine hK.out _ _ ?_
              clear hK K
              refine pure_ (i := 27) (N := some 110) (v := ?_) (a' := ?_) #[true, true, true, true, true, true, true, true, true, true, true, true, true, true, true, true, true, true, true, true, true, true, true, true, true, true, true, true, false, false, false, false, false] rfl rfl (any_of HT_.out (by kernel_rfl)) (fun _ _ _ h => h) (Or.inl ⟨by rfl, ?_⟩) ?_ ?_
              rotate_left
              · intro w'
                go_simp
                with_reducible rfl
              rotate_left
              · simp only [Act.put, List.setIfInBounds_toArray, List.set_cons_zero, List.set_cons_succ, i64_w, i32_w]
                rfl
              refine pure_ (i := 28) (N := some 111) (v := ?_) (a' := ?_) #[true, true, true, true, true, true, true, true, true, true, true, true, true, true, true, true, true, true, true, true, true, true, true, true, true, true, true, true, true, false, false, false, false] rfl rfl (any_of HT_.out (by kernel_rfl)) (fun _ _ _ h => h) (Or.inl ⟨by rfl, ?_⟩) ?_ ?_
              rotate_left
              · intro w'
                go_simp
                with_reducible rfl
              rotate_left
              · simp only [Act.put, List.setIfInBounds_toArray, List.set_cons_zero, List.set_cons_succ, i64_w, i32_w]
                rfl
              refine last_ (i := 29) (N := none) #[true, true, true, true, true, true, true, true, true, true, true, true, true, true, true, true, true, true, true, true, true, true, true, true, true, true, true, true, true, true, false, false, false] rfl rfl (one_of HT_.out (by kernel_rfl)) (by decide) (fun K hK => ?_)
              refine skip_ (w1 := ?_) (by rfl) rfl ?_ ?_
              rotate_left
              · go_simp
                rfl
              refine hK.out _ _ ?_
              clear hK K
              refine pure_ (i := 30) (N := some 112) (v := ?_) (a' := ?_) #[true, true, true, true, true, true, true, true, true, true, true, true, true, true, true, true, true, true, true, true, true, true, true, true, true, true, true, true, true, true, true, false, false] rfl rfl (any_of HT_.out (by kernel_rfl)) (fun _ _ _ h => h) (Or.inl ⟨by rfl, ?_⟩) ?_ ?_
              rotate_left
              · intro w'
                go_simp
                with_reducible rfl
              rotate_left
              · simp only [Act.put, List.setIfInBounds_toArray, List.set_cons_zero, List.set_cons_succ, i64_w, i32_w]
                rfl
              refine pure_ (i := 31) (N := some 113) (v := ?_) (a' := ?_) #[true, true, true, true, true, true, true, true, true, true, true, true, true, true, true, true, true, true, true, true, true, true, true, true, true, true, true, true, true, true, true, true, false] rfl rfl (any_of HT_.out (by kernel_rfl)) (fun _ _ _ h => h) (Or.inl ⟨by rfl, ?_⟩) ?_ ?_
              rotate_left
              · intro w'
                go_simp
                with_reducible rfl
              rotate_left
              · simp only [Act.put, List.setIfInBounds_toArray, List.set_cons_zero, List.set_cons_succ, i64_w, i32_w]
                rfl
              refine last_ (i := 32) (N := none) #[true, true, true, true, true, true, true, true, true, true, true, true, true, true, true, true, true, true, true, true, true, true, true, true, true, true, true, true, true, true, true, true, true] rfl rfl (one_of HT_.out (by kernel_rfl)) (by decide) (fun K hK => ?_)
              refine skip_ (w1 := ?_) (by rfl) rfl ?_ ?_
              rotate_left
              · go_simp
                rfl
              refine hK.out _ _ ?_
              clear hK K
              refine done_ (done_of HT_.out (by kernel_rfl)) ?_
              clear HT_ HW_
              go_wp2
              go_roundw
              case rel =>
                have HBW := Aside0.mk IV1.out.bl
                obtain ⟨es1, ck1, hm1, he1⟩ := IV1.out.mp
                have MM1 := Aside0.mk hm1
                have e1 : ((l.take i).map fun p => (nh_stp l p 4).1) ++ [(nh_stp l p 4).1] = (l.take (i + 1)).map fun p => (nh_stp l p 4).1 := nh_take_snoc _ _ _ CI.out PP.out
                have e2 : (l.take i).map nh_r102 ++ [nh_r102 p] = (l.take (i + 1)).map nh_r102 := nh_take_snoc _ _ _ CI.out PP.out
                have e3 : (l.take i).map (nh_r103 l) ++ [nh_r103 l p] = (l.take (i + 1)).map (nh_r103 l) := nh_take_snoc _ _ _ CI.out PP.out
                have OA2 := Aside0.mk (Kd.R_mono OA1.out (fun _ _ => trivial) : Kd.R (Kd.int .u8) 101 W w.heap.size (fun _ => True) _ _)
                have OH2 := Aside0.mk (Kd.R_mono OH1.out (fun _ _ => trivial) : Kd.R k102 102 W w.heap.size (fun _ => True) _ _)
                have OB2 := Aside0.mk (Kd.R_mono OB1.out (fun _ _ => trivial) : Kd.R k103 103 W w.heap.size (fun _ => True) _ _)
                rw [e1] at OA2
                rw [e2] at OH2
                rw [e3] at OB2
                exact ⟨i + 1, _, _, _, congrArg (Value.int .i64) W64.out, ⟨CI.out⟩, ⟨zp (l2 := [.slice (some ad) l.length c, .slice A1_ n1_ c1_, .slice A2_ n2_ c2_, .slice A3_ n3_ c3_]) BS, ⟨es1, ck1, (zf (g := gs) MM1 ⟨Ne.symm NSM.out⟩).out, he1⟩, zbo⟩, zs (g := gs) OA2 BS, zs (g := gs) OH2 BS, zs (g := gs) OB2 BS⟩
              case measure => rw [W64.out]; exact nh_meas_n CI.out
        · have ci0 : decide (i < l.length) = false := decide_eq_false ci
          have ci1 : decide ((i : Int) < (l.length : Int)) = false := decide_eq_false (by omega)
          obtain rfl : i = l.length := by have := HI.out; omega
          rw [List.take_length] at RC RH RB
          obtain ⟨A1_, c1_, ea, el1, eC1⟩ := Kd.R_reads RC.out
          subst ea
          obtain ⟨A2_, c2_, ea, el2, eC2⟩ := Kd.R_reads RH.out
          subst ea
          obtain ⟨A3_, c3_, ea, el3, eC3⟩ := Kd.R_reads RB.out
          subst ea
          have hK := k99_mk wo (nh_stageL l) LC.out (Kd.C_below CC.out SG0.out.bl) el1 eC1 el2 eC2 el3 eC3
          have KK := Aside0.mk (ro_of_blk (d := k99) (x := nh_stageL l) (T := 99) SG0.out.st hK)
          have HBE := Aside0.mk SG0.out.bl
          clear SG0 RC RH RB el1 eC1 el2 eC2 el3 eC3 hK
          go_wp2
          go_ret
          exact ⟨gs, rfl, KK.out, HBE.out⟩
/-- The places of the pieces that nobody can hit. -/
def nh_nev (s : S99) : Nat → List Int
  | 0 => []
  | i + 1 => if nh_hitR s (i : Int) 4 = true then nh_nev s i else nh_nev s i ++ [(i : Int)]
theorem nh_nev_len (s : S99) : ∀ i, (nh_nev s i).length ≤ i
  | 0 => Nat.le_refl 0
  | i + 1 => by
    have h := nh_nev_len s i
    rw [nh_nev]
    split
    · omega
    · simp; omega
/-- All that the walk asks of a board. -/
def nh_fineB (l : List S62) : Bool :=
  decide (l.length ≤ 200) && ((List.range l.length).all fun i => (mfind (nh_PL l i) (l.getD i z62).f0.f0 (l.getD i z62).f0.f1).isNone && (List.range 4).all fun j => (impl_Piece_falls.f 10 (l.getD i z62).f0.f0 (l.getD i z62).f0.f1 (l.getD i z62).f1 (l.getD i z62).f2 (l.getD i z62).f3 (j : Int)).isSome) &&
    ((List.range l.length).all fun i => (List.range 4).all fun j => !(decide (nh_bs (rd_T103 (nh_stageL l).f3 (i : Int)) (j : Int) ≥ 0)) || (decide (nh_bs (rd_T103 (nh_stageL l).f3 (i : Int)) (j : Int) < ((nh_stageL l).f2.length : Int)) && (slices_ContainsFunc__impl_stage_hitsEver_1.f 10 (nh_hrow (rd_T102 (nh_stageL l).f2 (nh_bs (rd_T103 (nh_stageL l).f3 (i : Int)) (j : Int)))) [(⟨nh_opp (j : Int)⟩ : S3)]).isSome))
theorem nh_fineB_fine {l : List S62} (h : nh_fineB l = true) : nh_Fine l ∧ ∀ i, i < l.length → nh_FineE (nh_stageL l) (i : Int) := by
  unfold nh_fineB at h
  simp only [Bool.and_eq_true, decide_eq_true_eq, List.all_eq_true, List.mem_range, Option.isNone_iff_eq_none] at h
  obtain ⟨⟨h1, h2⟩, h3⟩ := h
  refine ⟨⟨h1, fun i hi => (h2 i hi).1, fun i hi j hj => (h2 i hi).2 j hj⟩, fun i hi j hj hk => ?_⟩
  have h4 := h3 i hi j hj
  rw [decide_eq_true hk, Bool.not_true, Bool.false_or, Bool.and_eq_true, decide_eq_true_eq] at h4
  exact h4
def impl_NeverHit.f (k : Nat) (a0_0 : Int) (a0_1 : Int) (l0_2 : List (S62)) : Option (List Int × Int) := (impl_ValidBoard.f k a0_0 a0_1 l0_2).bind fun t => if t = true then (if nh_fineB l0_2 = true then some (nh_nev (nh_stageL l0_2) l0_2.length, 0) else none) else some (([] : List Int), 1)
theorem impl_NeverHit.mono : ∀ a0 a1 a2 k, LeO (impl_NeverHit.f k a0 a1 a2) (impl_NeverHit.f (k + 1) a0 a1 a2) := by
  intro a0 a1 a2 k
  unfold impl_NeverHit.f
  exact LeO.bind (impl_ValidBoard.mono _ _ _ _) (fun _ => LeO.refl _)
set_option maxHeartbeats 8000000 in
set_option maxRecDepth 100000 in
theorem impl_NeverHit.calls (k : Nat) (a0_0 : Int) (a0_1 : Int) (A0_2 : Option Addr) (c0_2 : Nat) (l0_2 : List (S62)) (r1 : List Int) (r2 : Int) (w : World) (hr0_2 : Kd.C k62 w A0_2 l0_2.length l0_2) (hc0_2 : l0_2.length ≤ c0_2) (h : impl_NeverHit.f k a0_0 a0_1 l0_2 = some (r1, r2)) :
    Calls Try.prog 20 #[.agg #[.int .i8 a0_0, .int .i8 a0_1, .slice A0_2 l0_2.length c0_2]] w fun e w' => ∃ v0_ : Value, e = .returned (.tuple #[v0_, .int .i64 r2]) ∧ Kd.R (Kd.int .i64) 2 w' w.heap.size (fun _ => True) v0_ r1 ∧ Below w.heap.size w w' := by
  have hu30 := Try.underlying30
  have HR := Aside0.mk hr0_2
  have HC := Aside0.mk hc0_2
  have HB := Aside0.mk (Below.refl w.heap.size w)
  clear hr0_2 hc0_2
  unfold impl_NeverHit.f at h
  obtain ⟨t, ht, h⟩ := Option.bind_eq_some_iff.mp h
  have HT := Aside0.mk ht
  clear ht
  cases t
  · rw [if_neg (by decide)] at h
    simp only [Option.some.injEq, Prod.mk.injEq] at h
    obtain ⟨rfl, rfl⟩ := h
    go_enter Try.func20, Try.ntmps20
    go_wp2_with (first | ((with_reducible refine gate_dst (N := 1) rfl ?_); refine zbx 1 #[.int .i8 a0_0, .int .i8 a0_1, .slice A0_2 l0_2.length c0_2] 30 ?_; intro gb hg w3 hbox hb; have n_ : _ ∧ _ := ⟨zbs hb, Aside0.mk hbox⟩; clear HB hbox hb hg; obtain ⟨HB, BK⟩ := n_; obtain ⟨q0_, q1_, q2_, f0_, f1_, f2_⟩ := zB3 BK) | ((with_reducible refine gate_callee (f := 29) rfl ?_); refine goesL_ (some 8) rfl rfl Try.func29 (by kernel_rfl) rfl #[.agg #[.int .i8 a0_0, .int .i8 a0_1, .slice A0_2 l0_2.length c0_2]] rfl zm ?_; (with_reducible refine (impl_ValidBoard.calls k a0_0 a0_1 _ _ l0_2 false _ (zcc HB HR.out) HC.out HT.out).mono ?_); rintro e w4 ⟨rfl, hb⟩; refine ⟨_, rfl, ?_⟩; have n_ := zb HB hb; clear HB hb; have HB := n_; clear n_))
    go_ret2
    exact ⟨_, zv, Kd.R_nil _ _ _ _ _, zbo⟩
  · rw [if_pos rfl] at h
    by_cases hf : nh_fineB l0_2 = true
    rotate_left
    · rw [if_neg hf] at h; cases h
    rw [if_pos hf] at h
    simp only [Option.some.injEq, Prod.mk.injEq] at h
    obtain ⟨rfl, rfl⟩ := h
    have F1 := Aside0.mk (nh_fineB_fine hf).1
    have F2 := Aside0.mk (nh_fineB_fine hf).2
    obtain ⟨s, hs⟩ : ∃ s, nh_stageL l0_2 = s := ⟨_, rfl⟩
    have SS := Aside0.mk hs
    rw [hs]
    clear hf hs
    go_enter Try.func20, Try.ntmps20
    go_wp2_with (first | ((with_reducible refine gate_dst (N := 1) rfl ?_); refine zbx 1 #[.int .i8 a0_0, .int .i8 a0_1, .slice A0_2 l0_2.length c0_2] 30 ?_; intro gb hg w3 hbox hb; have n_ : _ ∧ _ := ⟨zbs hb, Aside0.mk hbox⟩; clear HB hbox hb hg; obtain ⟨HB, BK⟩ := n_; obtain ⟨q0_, q1_, q2_, f0_, f1_, f2_⟩ := zB3 BK) | ((with_reducible refine gate_callee (f := 29) rfl ?_); refine goesL_ (some 8) rfl rfl Try.func29 (by kernel_rfl) rfl #[.agg #[.int .i8 a0_0, .int .i8 a0_1, .slice A0_2 l0_2.length c0_2]] rfl zm ?_; (with_reducible refine (impl_ValidBoard.calls k a0_0 a0_1 _ _ l0_2 true _ (zcc HB HR.out) HC.out HT.out).mono ?_); rintro e w4 ⟨rfl, hb⟩; refine ⟨_, rfl, ?_⟩; have n_ : _ ∧ _ := ⟨zb HB hb, zk BK hb⟩; clear HB BK hb; obtain ⟨HB, BK⟩ := n_) | ((with_reducible refine gate_callee (f := 41) rfl ?_); refine goesL_ (some 10) rfl rfl Try.func41 (by kernel_rfl) rfl #[.pointer (some ⟨gb, 0, none⟩)] rfl zm ?_; (refine (nh_stageOf_calls ⟨gb, 0, none⟩ a0_0 a0_1 l0_2 _ ?s1 F1.out).mono ?_); (case s1 => exact ro_of_blk (d := k30) (x := (⟨a0_0, a0_1, l0_2⟩ : S30)) (T := 30) (zh BK).out (k30_mk _ (⟨a0_0, a0_1, l0_2⟩ : S30) HC.out (zcc HB HR.out))); rintro e ws ⟨gs, rfl, hK, hb⟩; refine ⟨_, rfl, ?_⟩; have n_ : _ ∧ _ ∧ _ := ⟨zb HB hb, zk BK hb, Aside0.mk (SS.out ▸ hK)⟩; clear HB BK hb hK; obtain ⟨HB, BK, KS⟩ := n_; clear q0_ q1_ q2_ f0_ f1_ f2_; obtain ⟨q0_, q1_, q2_, f0_, f1_, f2_⟩ := zB3 BK; have HW : Aside0 (Below ws.heap.size ws ws) := ⟨Below.refl _ _⟩) | ((with_reducible refine gate_dst (N := 11) rfl ?_); refine Kd.R_lit (Kd.int .i64) (w0 := ws) ws.heap.size 2 ?hg (N := 11) ?hd (xs := ([] : List Int)) (inner := []) (ok := fun _ => True) (okp := fun _ => True) ?hr ?hp (fun _ hk => hk) trivial ?hb (zz HW) (by simp) ?_; (case hd => rfl); (case hg => rfl); (case hr => first | (go_simp; done) | (go_simp; rfl)); (case hp => exact (Reps.none _ _)); (case hb => exact HW.out); intro v11 w5 ho hb hg_ hnew_; have n_ : _ ∧ _ ∧ _ := ⟨Aside0.mk hb, Aside0.mk ho, Aside0.mk (blk_grown BK.out hg_ (by simp))⟩; clear HW BK ho hb hg_ hnew_; obtain ⟨HW, OO, BK⟩ := n_; clear q0_ q1_ q2_ f0_ f1_ f2_; obtain ⟨q0_, q1_, q2_, f0_, f1_, f2_⟩ := zB3 BK))
    clear q0_ q1_ q2_ f0_ f1_ f2_ BK
    go_loopw [5, 15] (fun v5 v15 w' => ∃ (i : Nat), v15 = .int .i64 (i : Int) ∧ Aside0 (i ≤ l0_2.length) ∧ Aside0 (Below ws.heap.size ws w') ∧ Aside0 (Kd.R (Kd.int .i64) 2 w' ws.heap.size (fun _ => True) v5 (nh_nev s i))) (fun _ v15 _ => l0_2.length - (intOf v15).toNat)
    case atStart => exact ⟨0, rfl, ⟨Nat.zero_le _⟩, HW, OO⟩
    case round =>
      clear HW OO
      obtain ⟨i, rfl, HJ, HW, OO⟩ := hrel
      have e5 : ∃ x, x = u5 := ⟨_, rfl⟩
      obtain ⟨v5, hv5⟩ := e5
      subst hv5
      by_cases ci : i < l0_2.length
      · have ci0 : decide (i < l0_2.length) = true := decide_eq_true ci
        have ci1 : decide ((i : Int) < (l0_2.length : Int)) = true := decide_eq_true (by omega)
        have CI := Aside0.mk ci
        have W64 : Aside0 (wrap64 ((i : Int) + 1) = ((i + 1 : Nat) : Int)) := ⟨by have := F1.out.len; unfold wrap64; omega⟩
        clear ci
        obtain ⟨vh, hvh⟩ : ∃ x, nh_hitR s (i : Int) 4 = x := ⟨_, rfl⟩
        have HI := Aside0.mk hvh
        clear hvh
        cases vh
        · go_wp2_with (first | ((with_reducible refine gate_callee (f := 42) rfl ?_); refine goesL_ (some 20) rfl rfl Try.func42 (by kernel_rfl) rfl #[.pointer (some ⟨gs, 0, none⟩), .int .i64 (i : Int)] rfl zm ?_; (refine (nh_hitEver_calls ⟨gs, 0, none⟩ s i _ (Kd.C_below KS.out HW.out) (by rw [← SS.out]; simpa [nh_stageL] using CI.out) (by rw [← SS.out]; simpa [nh_stageL] using CI.out) (by rw [← SS.out]; exact F2.out i CI.out)).mono ?_); rintro e w6 ⟨rfl, hb⟩; refine ⟨_, rfl, ?_⟩; rw [HI.out]; have n_ : _ ∧ _ := ⟨zb HW hb, zr OO hb⟩; clear HW OO hb; obtain ⟨HW, OO⟩ := n_) | ((with_reducible refine gate_builtin (b := .append) (xs := #[.tmp 22, .tmp 24]) rfl ?_); at_builtin; refine Kd.R_append (Kd.int .i64) (w0 := ws) ws.heap.size rfl (.tmp 22) (.tmp 24) 45 2 (.int .i64 0) 8 rfl Try.underlying45 info2 rfl (by decide) (by omega) v5 (nh_nev s i) (i : Int) [.int .i64 (i : Int)] (fun _ => True) (fun _ => False) rfl rfl ?aP (fun _ hk => hk.elim) ?aF ?aO ?aB ?aS ?aL ?_; (case aP => exact rfl); (case aB => exact HW.out); (case aF => exact (fun _ _ => trivial)); (case aO => exact OO.out); (case aS => exact zz HW); (case aL => have h1_ := nh_nev_len s i; have h2_ := F1.out.len; have h3_ := CI.out; omega); intro v7 w7 ho hb hg hat; have n_ : _ ∧ _ := ⟨Aside0.mk hb, Aside0.mk ho⟩; clear HW OO ho hb hg hat; obtain ⟨HW, OO⟩ := n_))
          go_roundw
          case rel => exact ⟨i + 1, congrArg (Value.int .i64) W64.out, ⟨CI.out⟩, HW, ⟨by rw [nh_nev, if_neg (by rw [HI.out]; decide)]; exact OO.out⟩⟩
          case measure => rw [W64.out]; exact nh_meas_n CI.out
        · go_wp2_with (first | ((with_reducible refine gate_callee (f := 42) rfl ?_); refine goesL_ (some 20) rfl rfl Try.func42 (by kernel_rfl) rfl #[.pointer (some ⟨gs, 0, none⟩), .int .i64 (i : Int)] rfl zm ?_; (refine (nh_hitEver_calls ⟨gs, 0, none⟩ s i _ (Kd.C_below KS.out HW.out) (by rw [← SS.out]; simpa [nh_stageL] using CI.out) (by rw [← SS.out]; simpa [nh_stageL] using CI.out) (by rw [← SS.out]; exact F2.out i CI.out)).mono ?_); rintro e w6 ⟨rfl, hb⟩; refine ⟨_, rfl, ?_⟩; rw [HI.out]; have n_ : _ ∧ _ := ⟨zb HW hb, zr OO hb⟩; clear HW OO hb; obtain ⟨HW, OO⟩ := n_))
          go_roundw
          case rel => exact ⟨i + 1, congrArg (Value.int .i64) W64.out, ⟨CI.out⟩, HW, ⟨by rw [nh_nev, if_pos HI.out]; exact OO.out⟩⟩
          case measure => rw [W64.out]; exact nh_meas_n CI.out
      · have ci0 : decide (i < l0_2.length) = false := decide_eq_false ci
        have ci1 : decide ((i : Int) < (l0_2.length : Int)) = false := decide_eq_false (by omega)
        obtain rfl : i = l0_2.length := by have := HJ.out; omega
        have HE := zb HB HW.out
        have HRR := Aside0.mk (Kd.R_lower OO.out HB.out.size)
        clear OO HW HB
        go_wp2
        go_ret2
        exact ⟨_, zv, HRR.out, HE.out⟩

end Go.Proofs.Ytdjhcnepndflmaa.PFnExactNeverHit
