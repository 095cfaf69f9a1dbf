-- WRITTEN by xprint.py, a program of this session's. Not trusted: Lean checks it.
import Derived.Test.YtdjhcnepndflmaaPFnExactBoardPicturex0
import Derived.Test.YtdjhcnepndflmaaPFnExactBoardPicturex7
namespace Go.Proofs.Ytdjhcnepndflmaa.PFnExactBoardPicture
open Go.RowKit Go.Proofs.YtdjhcnepndflmaaW.PrintWords Go.Proofs.YtdjhcnepndflmaaW.PrintLast Go.Proofs.YtdjhcnepndflmaaW.PrintMore Go.Proofs.YtdjhcnepndflmaaX
attribute [local go_sem] max2_int min2_int max_two min_two max_three min_three max_four min_four   -- for this text's walks alone
set_option linter.unusedVariables false
set_option linter.unusedSimpArgs false

/-- A call of a function value that is known. -/
theorem goesv_ {P : Program} {ops : Array Oper} {Q : Exit → Act → World → Prop} {oi : Oper} {N : Option Tmp} {a : Act} {w : World} {K : Act → World → Prop} {f : FuncId} {fn : Func} {x : Operand} {v0 : Value} {ts : Array TypeId} (hf : P.funcs[f]? = some fn) (hname : (fn.name == "runtime.NumGoroutine") = false) (hb : fn.body.isSome = true) (args : Array Value) {fc : Operand} (first captured : Array Value)
    (hw : Region.wanted oi (yielded ops a.tmps) = true) (hN : oi.dst = N) (hop : oi.op = .call { callee := .value fc, args := #[x], argTypes := ts }) (hfc : a.eval fc = .func (.func f) first captured) (hx : a.eval x = v0) (hargs : first ++ #[v0] ++ captured = args)
    (h : Calls P f args w fun e w' => ∃ v, e = .returned v ∧ K (a.put N v) w') : if Region.wanted oi (yielded ops a.tmps) = true then Oper.wp P oi a w K Q else K (a.put N undef) w := by
  refine call_ f args hw hN ?_ h
  have he := enters_ hf hname hb args w
  unfold execOp
  simp only [hop, resolve, hfc, Deferred.ofValue, invoke, Sem.run_bind, Sem.run_pure, Result.andThen_ok, List.map_toArray, List.map_cons, List.map_nil, hx]
  rw [hargs]
  exact he
/-! ### impl_Board_picture__impl_Board_kindSign: function 92 -/
mutual
def impl_Board_picture__impl_Board_kindSign.l0 : Nat → List (S30) → List (List Int) → Int → Int → List (S30) → Option (List ByteArray)
  | 0, _, _, _, _, _ => none
  | k + 1, x0, x5, x15, x16, x2000 => if x16 < x15 then (if 0 < (x0.length : Int) then ((slices_Repeat_byte_byte.f (([46] : List Int)) (wrap64 ((rd_T30 x0 0).f0))).bind fun t212 => (if x5.length < 5864062014805 then (impl_Board_picture__impl_Board_kindSign.l0 k x0 (x5 ++ [t212]) x15 (IntKind.i8.wrap (x16 + 1)) x2000) else (none))) else (none)) else (if 0 < (x0.length : Int) then (impl_Board_picture__impl_Board_kindSign.l1 k x5 ((rd_T30 x0 0).f2) (((rd_T30 x0 0).f2).length : Int) 0 x2000) else (none))
def impl_Board_picture__impl_Board_kindSign.l1 : Nat → List (List Int) → List (S62) → Int → Int → List (S30) → Option (List ByteArray)
  | 0, _, _, _, _, _ => none
  | k + 1, x5, x32, x33, x34, x2000 => if x34 < x33 then (if 0 ≤ x34 then (if x34 < (x32.length : Int) then (if 0 ≤ ((rd_T62 x32 x34).f0.f1) then (if ((rd_T62 x32 x34).f0.f1) < (x5.length : Int) then ((impl_Board_kindSign.f x2000 x34).bind fun t222 => (if 0 ≤ ((rd_T62 x32 x34).f0.f0) then (if ((rd_T62 x32 x34).f0.f0) < ((rd_L11 x5 ((rd_T62 x32 x34).f0.f1)).length : Int) then (impl_Board_picture__impl_Board_kindSign.l1 k (x5.set (((rd_T62 x32 x34).f0.f1) : Int).toNat ((rd_L11 x5 ((rd_T62 x32 x34).f0.f1)).set (((rd_T62 x32 x34).f0.f0) : Int).toNat t222)) x32 x33 (wrap64 (x34 + 1)) x2000) else (none)) else (none))) else (none)) else (none)) else (none)) else (none)) else (impl_Board_picture__impl_Board_kindSign.l2 k (([] : List ByteArray)) x5 (x5.length : Int) 0)
def impl_Board_picture__impl_Board_kindSign.l2 : Nat → List ByteArray → List (List Int) → Int → Int → Option (List ByteArray)
  | 0, _, _, _, _ => none
  | k + 1, x8, x54, x55, x56 => if x56 < x55 then (if 0 ≤ x56 then (if x56 < (x54.length : Int) then (if x8.length < 8796093022208 then (impl_Board_picture__impl_Board_kindSign.l2 k (x8 ++ [strOfNums (rd_L11 x54 x56)]) x54 x55 (wrap64 (x56 + 1))) else (none)) else (none)) else (none)) else (some x8)
end
def impl_Board_picture__impl_Board_kindSign.f (k : Nat) (l0 : List (S30)) (l1_0 : List (S30)) : Option (List ByteArray) := if 0 < (l0.length : Int) then (impl_Board_picture__impl_Board_kindSign.l0 k l0 (([] : List (List Int))) ((rd_T30 l0 0).f1) 0 l1_0) else (none)
theorem impl_Board_picture__impl_Board_kindSign.mono_l : ∀ k, (∀ y0 y1 y2 y3 y4, LeO (impl_Board_picture__impl_Board_kindSign.l0 k y0 y1 y2 y3 y4) (impl_Board_picture__impl_Board_kindSign.l0 (k + 1) y0 y1 y2 y3 y4)) ∧ (∀ y0 y1 y2 y3 y4, LeO (impl_Board_picture__impl_Board_kindSign.l1 k y0 y1 y2 y3 y4) (impl_Board_picture__impl_Board_kindSign.l1 (k + 1) y0 y1 y2 y3 y4)) ∧ (∀ y0 y1 y2 y3, LeO (impl_Board_picture__impl_Board_kindSign.l2 k y0 y1 y2 y3) (impl_Board_picture__impl_Board_kindSign.l2 (k + 1) y0 y1 y2 y3))
  | 0 => ⟨fun _ _ _ _ _ r h => by simp [impl_Board_picture__impl_Board_kindSign.l0] at h, fun _ _ _ _ _ r h => by simp [impl_Board_picture__impl_Board_kindSign.l1] at h, fun _ _ _ _ r h => by simp [impl_Board_picture__impl_Board_kindSign.l2] at h⟩
  | k + 1 => by
    obtain ⟨ih0, ih1, ih2⟩ := impl_Board_picture__impl_Board_kindSign.mono_l k
    refine ⟨?_, ?_, ?_⟩
    · intro y0 y1 y2 y3 y4
      unfold impl_Board_picture__impl_Board_kindSign.l0
      repeat' first
      | (with_reducible exact ih0 _ _ _ _ _)
      | (with_reducible exact ih1 _ _ _ _ _)
      | (with_reducible exact ih2 _ _ _ _)
      | (with_reducible exact LeO.refl _)
      | (with_reducible exact LeO.none _)
      | (with_reducible refine LeO.ite ?_ ?_)
      | (with_reducible refine LeO.bind ?_ (fun _ => ?_))
      | exact ih0 _ _ _ _ _
      | exact ih1 _ _ _ _ _
      | exact ih2 _ _ _ _
      | exact LeO.none _
      | refine LeO.ite ?_ ?_
      | refine LeO.bind ?_ (fun _ => ?_)
    · intro y0 y1 y2 y3 y4
      unfold impl_Board_picture__impl_Board_kindSign.l1
      repeat' first
      | (with_reducible exact ih0 _ _ _ _ _)
      | (with_reducible exact ih1 _ _ _ _ _)
      | (with_reducible exact ih2 _ _ _ _)
      | (with_reducible exact LeO.refl _)
      | (with_reducible exact LeO.none _)
      | (with_reducible refine LeO.ite ?_ ?_)
      | (with_reducible refine LeO.bind ?_ (fun _ => ?_))
      | exact ih0 _ _ _ _ _
      | exact ih1 _ _ _ _ _
      | exact ih2 _ _ _ _
      | exact LeO.none _
      | refine LeO.ite ?_ ?_
      | refine LeO.bind ?_ (fun _ => ?_)
    · intro y0 y1 y2 y3
      unfold impl_Board_picture__impl_Board_kindSign.l2
      repeat' first
      | (with_reducible exact ih0 _ _ _ _ _)
      | (with_reducible exact ih1 _ _ _ _ _)
      | (with_reducible exact ih2 _ _ _ _)
      | (with_reducible exact LeO.refl _)
      | (with_reducible exact LeO.none _)
      | (with_reducible refine LeO.ite ?_ ?_)
      | (with_reducible refine LeO.bind ?_ (fun _ => ?_))
      | exact ih0 _ _ _ _ _
      | exact ih1 _ _ _ _ _
      | exact ih2 _ _ _ _
      | exact LeO.none _
      | refine LeO.ite ?_ ?_
      | refine LeO.bind ?_ (fun _ => ?_)
theorem impl_Board_picture__impl_Board_kindSign.mono : ∀ a0 a1 k, LeO (impl_Board_picture__impl_Board_kindSign.f k a0 a1) (impl_Board_picture__impl_Board_kindSign.f (k + 1) a0 a1) := by
  intro a0 a1 k
  obtain ⟨ih0, ih1, ih2⟩ := impl_Board_picture__impl_Board_kindSign.mono_l k
  unfold impl_Board_picture__impl_Board_kindSign.f
  repeat' first
      | (with_reducible exact ih0 _ _ _ _ _)
      | (with_reducible exact ih1 _ _ _ _ _)
      | (with_reducible exact ih2 _ _ _ _)
      | (with_reducible exact LeO.refl _)
      | (with_reducible exact LeO.none _)
      | (with_reducible refine LeO.ite ?_ ?_)
      | (with_reducible refine LeO.bind ?_ (fun _ => ?_))
      | exact ih0 _ _ _ _ _
      | exact ih1 _ _ _ _ _
      | exact ih2 _ _ _ _
      | exact LeO.none _
      | refine LeO.ite ?_ ?_
      | refine LeO.bind ?_ (fun _ => ?_)
def impl_Board_picture__impl_Board_kindSign.T9 : Bool × List (List Nat × List Nat) := (true, [([], []), ([], []), ([1], [1]), ([2], [2]), ([0, 3], [0, 3]), ([4], [4]), ([], []), ([6], [6]), ([7], [7]), ([], []), ([], []), ([9, 10], [9, 10]), ([5, 8, 0, 1, 2, 3, 4, 5, 6, 7, 8, 9, 10, 11], [5, 8]), ([12, 11, 11, 0, 1, 2, 3, 4, 5, 6, 7, 8, 9, 10, 11], [11, 12])])
def impl_Board_picture__impl_Board_kindSign.B9 : List Nat := [0, 0, 2, 6, 15, 31, 0, 64, 192, 0, 0, 1536, 4095, 8191]
theorem impl_Board_picture__impl_Board_kindSign.tab9 : rtab .any (opsOf Try.f35 9) = impl_Board_picture__impl_Board_kindSign.T9 := by kernel_rfl
theorem impl_Board_picture__impl_Board_kindSign.bits9 : waitsOk impl_Board_picture__impl_Board_kindSign.T9.2 impl_Board_picture__impl_Board_kindSign.B9 = true := by kernel_rfl
set_option maxHeartbeats 8000000 in
set_option maxRecDepth 100000 in
theorem impl_Board_picture__impl_Board_kindSign.calls (k : Nat) (adp0 : Addr) (l0 : List (S30)) (adp1_0 : Addr) (l1_0 : List (S30)) (r : List ByteArray) (w : World) (hr0 : Kd.C k30 w (some adp0) l0.length l0) (hr1_0 : Kd.C k30 w (some adp1_0) l1_0.length l1_0) (h : impl_Board_picture__impl_Board_kindSign.f k l0 l1_0 = some r) :
    Calls Try.prog 35 #[.pointer (some adp0), .func (.func 36) #[.pointer (some adp1_0)] #[]] w fun e w' => ∃ v0_ : Value, e = .returned (v0_) ∧ Kd.R Kd.string 9 w' w.heap.size (fun _ => True) v0_ r ∧ Below w.heap.size w w' := by
  have hu62 := Try.underlying62
  have HR0 := Aside0.mk hr0
  clear hr0
  have HR1_0 := Aside0.mk hr1_0
  clear hr1_0
  have HB := Aside0.mk (Below.refl w.heap.size w)
  have H : (if 0 < (l0.length : Int) then (impl_Board_picture__impl_Board_kindSign.l0 k l0 (([] : List (List Int))) ((rd_T30 l0 0).f1) 0 l1_0) else (none)) = some r := h
  clear h
  obtain ⟨y204, hy204⟩ : ∃ y_ : List (List Int), y_ = (([] : List (List Int))) := ⟨_, rfl⟩
  replace H : (if 0 < (l0.length : Int) then (impl_Board_picture__impl_Board_kindSign.l0 k l0 y204 ((rd_T30 l0 0).f1) 0 l1_0) else (none)) = some r := by first | (rw [hy204]; with_reducible exact H) | (have H2_ := (Option.bind_some _ _).symm.trans H; rw [hy204]; with_reducible exact H2_) | (have H2_ := (Option.bind_some _ _).symm.trans H; with_reducible exact H2_) | with_reducible exact H | (rw [hy204]; exact H) | exact H
  have Ny204 := Aside0.mk hy204
  clear hy204
  by_cases c3 : 0 < (l0.length : Int)
  · rw [if_pos c3] at H
    have c3b0 : decide (0 < (l0.length : Int)) = true := decide_eq_true c3
    have c3b1 : decide (0 < l0.length) = true := decide_eq_true (by omega)
    clear c3
    have H' := Aside0.mk H
    clear H
    go_enter Try.func35, Try.ntmps35
    go_wp2_with (first | ((with_reducible refine gate_dst (N := 11) rfl ?_); refine Kd.S_lit (Kd.slice 5 (Kd.int .u8)) _ 88 ?hg (N := 11) ?hd (xs := ([] : List (List Int))) (inner := []) (ok := fun _ => True) (okp := fun _ => True) ?hr ?hp (fun _ hk => hk) trivial (Below.refl _ _) (Nat.le_refl _) (by simp) ?_; (case hd => rfl); (case hg => rfl); (case hr => first | (go_simp; done) | (go_simp; rfl)); (case hp => exact (Reps.none _ _)); intro v205 w4 ho5 hb hg_ hnew_; clear hg_ hnew_; (first | rw [← Ny204.out] at ho5 | (simp only [Int.reduceToNat] at ho5; rw [← Ny204.out] at ho5)); have n0_ := Aside0.mk (Kd.S_lower ho5 (below_size (by repeat (first | (with_reducible first | exact HB.out | apply below_alloc | apply pw_below_drewN | apply below_drew1) | exact HB.out)))); have n1_ := Aside0.mk (below_step (by repeat (first | (with_reducible first | exact HB.out | apply below_alloc | apply pw_below_drewN | apply below_drew1) | exact HB.out)) hb); clear HB; have HO206 := n0_; have HB := n1_; clear n0_ n1_; clear hb ho5; have p207 : 0 ≤ (0 : Int) := (by omega); have q207 : 0 < (l0.length : Int) := of_decide_eq_true (by first | (with_reducible assumption) | assumption); obtain ⟨ad207, A207_2, c207_2, e207, hx207_0, hx207_1, hx207_2, hl207_2, hi207_2⟩ := at_T30 HR0.out 0 p207 q207; obtain rfl : adp0 = ad207 := (by injection e207); have qi207 : (0 < l0.length) = True := eq_true (by omega); (try rw [show ((0 : Int)).toNat = 0 from rfl] at hx207_0); (try rw [show 0 * 3 = 0 from rfl] at hx207_0); (try rw [Addr.add_zero'] at hx207_0); (try rw [show ((0 : Int)).toNat = 0 from rfl] at hx207_1); (try rw [show 0 * 3 = 0 from rfl] at hx207_1); (try rw [Addr.add_zero'] at hx207_1); (try rw [show ((0 : Int)).toNat = 0 from rfl] at hx207_2); (try rw [show 0 * 3 = 0 from rfl] at hx207_2); (try rw [Addr.add_zero'] at hx207_2); replace hx207_0 := (HB.out.cell (World.block_lt_of_cell? w _ hx207_0)).trans hx207_0; replace hx207_1 := (HB.out.cell (World.block_lt_of_cell? w _ hx207_1)).trans hx207_1; replace hx207_2 := (HB.out.cell (World.block_lt_of_cell? w _ hx207_2)).trans hx207_2; have HR207_2 := Aside0.mk hi207_2; have HC207_2 := Aside0.mk hl207_2; clear hi207_2 hl207_2; replace p207 := eq_true p207; replace q207 := eq_true q207))
    go_loopg [5, 16] k (fun kq v5 v16 w' => ∃ (x5_1 : List (List Int)) (x16_1 : Int), v16 = .int .i8 x16_1 ∧ Aside0 (impl_Board_picture__impl_Board_kindSign.l0 kq l0 x5_1 ((rd_T30 l0 0).f1) x16_1 l1_0 = some r) ∧ Aside0 (kq ≤ k) ∧ Aside0 (Kd.S (Kd.slice 5 (Kd.int .u8)) 88 w' w.heap.size (fun _ => True) v5 x5_1) ∧ Aside0 (Below w.heap.size w w'))
    case atStart => exact ⟨(y204), (0), (by first | rfl | (simp; done) | (simp [*]; done) | (exact congrArg (Value.int .i64) (wrap_eq (by omega)))), H', ⟨Nat.le_refl _⟩, ⟨by (with_reducible repeat (first | apply Kd.S_alloc | apply Kd.S_drewN | apply Kd.S_drew)); exact HO206.out⟩, ⟨by repeat (first | (with_reducible first | exact HB.out | apply below_alloc | apply pw_below_drewN | apply below_drew1) | exact HB.out)⟩⟩
    case round =>
      clear H'
      try clear c2
      try clear p2
      try clear q2
      try clear hx2
      try clear qi2
      try clear c3
      try clear c3b0
      try clear c3b1
      try clear hx207_0
      try clear hx207_1
      try clear hx207_2
      try clear p207
      try clear q207
      obtain ⟨x5_1, x16_1, rfl, HA, HK1, HO_5, HB⟩ := hrel
      cases gk with
      | zero => exact absurd HA.out (by simp [impl_Board_picture__impl_Board_kindSign.l0])
      | succ k1 =>
        have H := HA.out
        clear HA
        simp only [impl_Board_picture__impl_Board_kindSign.l0] at H
        by_cases c6 : x16_1 < ((rd_T30 l0 0).f1)
        · rw [if_pos c6] at H
          have c6b0 : decide (x16_1 < ((rd_T30 l0 0).f1)) = true := decide_eq_true c6
          clear c6
          obtain ⟨y208, hy208⟩ : ∃ y_ : List Int, y_ = (([46] : List Int)) := ⟨_, rfl⟩
          replace H : (if 0 < (l0.length : Int) then ((slices_Repeat_byte_byte.f y208 (wrap64 ((rd_T30 l0 0).f0))).bind fun t212 => (if x5_1.length < 5864062014805 then (impl_Board_picture__impl_Board_kindSign.l0 k1 l0 (x5_1 ++ [t212]) ((rd_T30 l0 0).f1) (IntKind.i8.wrap (x16_1 + 1)) l1_0) else (none))) else (none)) = some r := by first | (rw [hy208]; with_reducible exact H) | (have H2_ := (Option.bind_some _ _).symm.trans H; rw [hy208]; with_reducible exact H2_) | (have H2_ := (Option.bind_some _ _).symm.trans H; with_reducible exact H2_) | with_reducible exact H | (rw [hy208]; exact H) | exact H
          have Ny208 := Aside0.mk hy208
          clear hy208
          by_cases c7 : 0 < (l0.length : Int)
          · rw [if_pos c7] at H
            have c7b0 : decide (0 < (l0.length : Int)) = true := decide_eq_true c7
            have c7b1 : decide (0 < l0.length) = true := decide_eq_true (by omega)
            clear c7
            replace H := Option.bind_eq_some_iff.mp H
            obtain ⟨t212, A80, H⟩ := H
            replace H : (if x5_1.length < 5864062014805 then (impl_Board_picture__impl_Board_kindSign.l0 k1 l0 (x5_1 ++ [t212]) ((rd_T30 l0 0).f1) (IntKind.i8.wrap (x16_1 + 1)) l1_0) else (none)) = some r := H
            have A8 := Aside0.mk A80
            clear A80
            by_cases c9 : x5_1.length < 5864062014805
            · rw [if_pos c9] at H
              have LMc9 := Aside0.mk c9
              clear c9
              obtain ⟨y215, hy215⟩ : ∃ y_ : List (List Int), y_ = (x5_1 ++ [t212]) := ⟨_, rfl⟩
              replace H : (impl_Board_picture__impl_Board_kindSign.l0 k1 l0 y215 ((rd_T30 l0 0).f1) (IntKind.i8.wrap (x16_1 + 1)) l1_0) = some r := by first | (rw [hy215]; with_reducible exact H) | (have H2_ := (Option.bind_some _ _).symm.trans H; rw [hy215]; with_reducible exact H2_) | (have H2_ := (Option.bind_some _ _).symm.trans H; with_reducible exact H2_) | with_reducible exact H | (rw [hy215]; exact H) | exact H
              have Ny215 := Aside0.mk hy215
              clear hy215
              have H' := Aside0.mk H
              clear H
              go_wp2_with (first | ((with_reducible refine gate_dst (N := 19) rfl ?_); refine Kd.R_lit (Kd.int .u8) _ 5 ?hg (N := 19) ?hd (xs := ([46] : List Int)) (inner := [.int .u8 46]) (ok := fun _ => True) (okp := fun _ => True) ?hr ?hp (fun _ hk => hk) trivial (Below.refl _ _) (Nat.le_refl _) (by simp) ?_; (case hd => rfl); (case hg => rfl); (case hr => first | (go_simp; done) | (go_simp; rfl)); (case hp => exact (Reps.one (show Kd.M (Kd.int .u8) _ _ _ 46 [.int .u8 46] from rfl) (Reps.none _ _))); intro v209 w10 ho11 hb hg_ hnew_; clear hg_ hnew_; (first | rw [← Ny208.out] at ho11 | (simp only [Int.reduceToNat] at ho11; rw [← Ny208.out] at ho11)); have n0_ := Aside0.mk (Kd.S_elder' (by (with_reducible repeat (first | apply Kd.S_alloc | apply Kd.S_drewN | apply Kd.S_drew)); exact HO_5.out) (Kd.R_base ho11) hb); have n1_ := Aside0.mk (Kd.R_lower ho11 (below_size (by repeat (first | (with_reducible first | exact HB.out | apply below_alloc | apply pw_below_drewN | apply below_drew1) | exact HB.out)))); have n2_ := Aside0.mk (below_step (by repeat (first | (with_reducible first | exact HB.out | apply below_alloc | apply pw_below_drewN | apply below_drew1) | exact HB.out)) hb); clear HO_5; clear HB; have HO_5 := n0_; have HO210 := n1_; have HB := n2_; clear n0_ n1_ n2_; clear hb ho11; have p211 : 0 ≤ (0 : Int) := (by omega); have q211 : 0 < (l0.length : Int) := of_decide_eq_true (by first | (with_reducible assumption) | assumption); obtain ⟨ad211, A211_2, c211_2, e211, hx211_0, hx211_1, hx211_2, hl211_2, hi211_2⟩ := at_T30 HR0.out 0 p211 q211; obtain rfl : adp0 = ad211 := (by injection e211); have qi211 : (0 < l0.length) = True := eq_true (by omega); (try rw [show ((0 : Int)).toNat = 0 from rfl] at hx211_0); (try rw [show 0 * 3 = 0 from rfl] at hx211_0); (try rw [Addr.add_zero'] at hx211_0); (try rw [show ((0 : Int)).toNat = 0 from rfl] at hx211_1); (try rw [show 0 * 3 = 0 from rfl] at hx211_1); (try rw [Addr.add_zero'] at hx211_1); (try rw [show ((0 : Int)).toNat = 0 from rfl] at hx211_2); (try rw [show 0 * 3 = 0 from rfl] at hx211_2); (try rw [Addr.add_zero'] at hx211_2); replace hx211_0 := (HB.out.cell (World.block_lt_of_cell? w _ hx211_0)).trans hx211_0; replace hx211_1 := (HB.out.cell (World.block_lt_of_cell? w _ hx211_1)).trans hx211_1; replace hx211_2 := (HB.out.cell (World.block_lt_of_cell? w _ hx211_2)).trans hx211_2; have HR211_2 := Aside0.mk hi211_2; have HC211_2 := Aside0.mk hl211_2; clear hi211_2 hl211_2; replace p211 := eq_true p211; replace q211 := eq_true q211; obtain ⟨Ao12, co12, eo12⟩ := Kd.R_slice HO210.out; subst eo12) | ((with_reducible refine gate_callee (f := 56) rfl ?_); refine goesL_ (some 25) rfl rfl Try.func56 (by kernel_rfl) rfl #[.slice Ao12 y208.length co12, .int .i64 (wrap64 ((rd_T30 l0 0).f0))] rfl (by (try simp only [List.map_toArray, List.map_cons, List.map_nil]); first | done | rfl | (simp only [List.length_drop, List.length_take]; rfl)) ?_; (with_reducible refine (slices_Repeat_byte_byte.calls _ _ y208 (wrap64 ((rd_T30 l0 0).f0)) t212 _ ?side1 ?side2 A8.out).mono ?_); (case side1 => repeat (first | exact (Kd.R_reads' HO210.out).2.2 | (with_reducible refine Kd.C_alloc ?_ _) | (with_reducible refine Kd.C_drewN ?_ _) | (with_reducible refine Kd.C_drew ?_))); (case side2 => exact (Kd.R_reads' HO210.out).2.1); rintro e w13 ⟨v213, rfl, ho0, hb⟩; refine ⟨_, rfl, ?_⟩; have n0_ := Aside0.mk (Kd.S_elder' (by (with_reducible repeat (first | apply Kd.S_alloc | apply Kd.S_drewN | apply Kd.S_drew)); exact HO_5.out) (Kd.R_base ho0) hb); have n1_ := Aside0.mk (Kd.R_elder' (by (with_reducible repeat (first | apply Kd.R_alloc | apply Kd.R_drewN | apply Kd.R_drew)); exact HO210.out) (Kd.R_base ho0) hb); have n2_ := Aside0.mk (Kd.R_lower (Kd.R_new' ho0 (Kd.R_lt (by (with_reducible repeat (first | apply Kd.R_alloc | apply Kd.R_drewN | apply Kd.R_drew)); exact HO210.out))) (below_size (by repeat (first | (with_reducible first | exact HB.out | apply below_alloc | apply pw_below_drewN | apply below_drew1) | exact HB.out)))); have n3_ := Aside0.mk (below_step (by repeat (first | (with_reducible first | exact HB.out | apply below_alloc | apply pw_below_drewN | apply below_drew1) | exact HB.out)) hb); clear HO_5; clear HO210; clear HB; have HO_5 := n0_; have HO210 := n1_; have HO214 := n2_; have HB := n3_; clear n0_ n1_ n2_ n3_; (try clear hb); (try clear hb2); (try clear hk); (try clear hi); (try clear ho0); obtain ⟨Ao15, co15, eo15⟩ := Kd.R_slice HO214.out; subst eo15) | ((with_reducible refine gate_builtin (b := .append) (xs := #[.tmp 18, .tmp 26]) rfl ?_); at_builtin; refine Kd.S_append (Kd.slice 5 (Kd.int .u8)) (w0 := w) w.heap.size rfl (.tmp 18) (.tmp 26) 87 88 (.slice none 0 0) 24 rfl Try.underlying87 info88 rfl (by decide) (by omega) u5 x5_1 t212 [.slice Ao15 t212.length co15] (fun k_ => some k_ ≠ (.slice Ao12 y208.length co12 : Value).ownBlock) (fun k_ => some k_ = (.slice Ao15 t212.length co15 : Value).ownBlock) rfl rfl ?aP (fun k_ hk_ => ((Kd.R_mono (ok' := fun k_ => ((fun k_ => some k_ ≠ (.slice Ao12 y208.length co12 : Value).ownBlock)) k_ ∧ some k_ ≠ (u5 : Value).ownBlock) (Kd.R_apart' (HO214.out) (Kd.S_typed HO_5.out) (by decide)) (fun k_ hk => ⟨hk.1.2, hk.2⟩))).1 k_ hk_.symm) ?aF ?aO ?aB ?aS ?aL ?_; (case aP => exact Kd.M_row (Kd.R_mono (Kd.R_tight rfl (Kd.R_mono (ok' := fun k_ => ((fun k_ => some k_ ≠ (.slice Ao12 y208.length co12 : Value).ownBlock)) k_ ∧ some k_ ≠ (u5 : Value).ownBlock) (Kd.R_apart' (HO214.out) (Kd.S_typed HO_5.out) (by decide)) (fun k_ hk => ⟨hk.1.2, hk.2⟩))) (fun _ h_ => h_))); (case aB => exact (by repeat (first | (with_reducible first | exact HB.out | apply below_alloc | apply pw_below_drewN | apply below_drew1) | exact HB.out))); (case aF => exact (fun k_ hk => Kd.fresh' (Kd.R_lt (by (with_reducible repeat (first | apply Kd.R_alloc | apply Kd.R_drewN | apply Kd.R_drew)); exact HO210.out)) k_ hk)); (case aO => exact (by (with_reducible repeat (first | apply Kd.S_alloc | apply Kd.S_drewN | apply Kd.S_drew)); exact Kd.S_mono HO_5.out (fun k_ hk => ⟨hk.1.2, fun e_ => hk.2 e_⟩))); (case aS => exact (below_size (by repeat (first | (with_reducible first | exact HB.out | apply below_alloc | apply pw_below_drewN | apply below_drew1) | exact HB.out)))); (case aL => have := LMc9.out; omega); intro v216 w14 ho hb hg hat; rw [← Ny215.out] at ho; have n0_ := Aside0.mk (Kd.R_over' (by (with_reducible repeat (first | apply Kd.R_alloc | apply Kd.R_drewN | apply Kd.R_drew)); exact HO210.out) (Kd.S_typed (by (with_reducible repeat (first | apply Kd.S_alloc | apply Kd.S_drewN | apply Kd.S_drew)); exact HO_5.out)) (by decide) hg); have n1_ := Aside0.mk (hb); have n2_ := Aside0.mk (ho); clear HO210; clear HB; clear HO_5; clear HO214; have HO210 := n0_; have HB := n1_; have HO217 := n2_; clear n0_ n1_ n2_; clear ho hb hg hat))
              go_roundg k1
              case measure => have := HK1.out; omega
              case rel => exact ⟨(y215), (IntKind.i8.wrap (x16_1 + 1)), (by first | rfl | (simp; done) | (simp [*]; done) | (exact congrArg (Value.int .i64) (wrap_eq (by omega)))), H', ⟨by have := HK1.out; omega⟩, ⟨by (with_reducible repeat (first | apply Kd.S_alloc | apply Kd.S_drewN | apply Kd.S_drew)); exact Kd.S_mono HO217.out (fun _ hk => trivial)⟩, ⟨by repeat (first | (with_reducible first | exact HB.out | apply below_alloc | apply pw_below_drewN | apply below_drew1) | exact HB.out)⟩⟩
            · rw [if_neg c9] at H
              exact absurd H (by simp)
          · rw [if_neg c7] at H
            exact absurd H (by simp)
        · rw [if_neg c6] at H
          have c6b0 : decide (x16_1 < ((rd_T30 l0 0).f1)) = false := decide_eq_false c6
          clear c6
          by_cases c16 : 0 < (l0.length : Int)
          · rw [if_pos c16] at H
            have c16b0 : decide (0 < (l0.length : Int)) = true := decide_eq_true c16
            have c16b1 : decide (0 < l0.length) = true := decide_eq_true (by omega)
            clear c16
            have H' := Aside0.mk H
            clear H
            have p218 : 0 ≤ (0 : Int) := (by omega)
            have q218 : 0 < (l0.length : Int) := of_decide_eq_true (by first | (with_reducible assumption) | assumption)
            obtain ⟨ad218, A218_2, c218_2, e218, hx218_0, hx218_1, hx218_2, hl218_2, hi218_2⟩ := at_T30 HR0.out 0 p218 q218
            obtain rfl : adp0 = ad218 := (by injection e218)
            have qi218 : (0 < l0.length) = True := eq_true (by omega)
            (try rw [show ((0 : Int)).toNat = 0 from rfl] at hx218_0)
            (try rw [show 0 * 3 = 0 from rfl] at hx218_0)
            (try rw [Addr.add_zero'] at hx218_0)
            (try rw [show ((0 : Int)).toNat = 0 from rfl] at hx218_1)
            (try rw [show 0 * 3 = 0 from rfl] at hx218_1)
            (try rw [Addr.add_zero'] at hx218_1)
            (try rw [show ((0 : Int)).toNat = 0 from rfl] at hx218_2)
            (try rw [show 0 * 3 = 0 from rfl] at hx218_2)
            (try rw [Addr.add_zero'] at hx218_2)
            replace hx218_0 := (HB.out.cell (World.block_lt_of_cell? w _ hx218_0)).trans hx218_0
            replace hx218_1 := (HB.out.cell (World.block_lt_of_cell? w _ hx218_1)).trans hx218_1
            replace hx218_2 := (HB.out.cell (World.block_lt_of_cell? w _ hx218_2)).trans hx218_2
            have HR218_2 := Aside0.mk hi218_2
            have HC218_2 := Aside0.mk hl218_2
            clear hi218_2 hl218_2
            replace p218 := eq_true p218
            replace q218 := eq_true q218
            go_wp2
            go_loopg [34] k1 (fun kq v34 w' => ∃ (x5_2 : List (List Int)) (x34_2 : Int), v34 = .int .i64 x34_2 ∧ Aside0 (impl_Board_picture__impl_Board_kindSign.l1 kq x5_2 ((rd_T30 l0 0).f2) (((rd_T30 l0 0).f2).length : Int) x34_2 l1_0 = some r) ∧ Aside0 (kq ≤ k1) ∧ Aside0 (Kd.S (Kd.slice 5 (Kd.int .u8)) 88 w' w.heap.size (fun _ => True) u5 x5_2) ∧ Aside0 (Below w.heap.size w w'))
            case atStart => exact ⟨(x5_1), (0), (by first | rfl | (simp; done) | (simp [*]; done) | (exact congrArg (Value.int .i64) (wrap_eq (by omega)))), H', ⟨Nat.le_refl _⟩, ⟨by (with_reducible repeat (first | apply Kd.S_alloc | apply Kd.S_drewN | apply Kd.S_drew)); exact HO_5.out⟩, ⟨by repeat (first | (with_reducible first | exact HB.out | apply below_alloc | apply pw_below_drewN | apply below_drew1) | exact HB.out)⟩⟩
            case round =>
              clear H'
              try clear c1
              try clear c2
              try clear p2
              try clear q2
              try clear hx2
              try clear qi2
              try clear c3
              try clear c3b0
              try clear c3b1
              try clear c5
              try clear c6
              try clear c6b0
              try clear p6
              try clear c7
              try clear c7b0
              try clear c7b1
              try clear c9
              try clear c16
              try clear c16b0
              try clear c16b1
              try clear hx207_0
              try clear hx207_1
              try clear hx207_2
              try clear hx211_0
              try clear hx211_1
              try clear hx211_2
              try clear hx218_0
              try clear hx218_1
              try clear hx218_2
              try clear p2
              try clear p207
              try clear p211
              try clear p218
              try clear q2
              try clear q207
              try clear q211
              try clear q218
              obtain ⟨x5_2, x34_2, rfl, HA, HK2, HO_5, HB⟩ := hrel
              cases gk with
              | zero => exact absurd HA.out (by simp [impl_Board_picture__impl_Board_kindSign.l1])
              | succ k2 =>
                have H := HA.out
                clear HA
                simp only [impl_Board_picture__impl_Board_kindSign.l1] at H
                by_cases c17 : x34_2 < (((rd_T30 l0 0).f2).length : Int)
                · rw [if_pos c17] at H
                  have c17b0 : decide (x34_2 < (((rd_T30 l0 0).f2).length : Int)) = true := decide_eq_true c17
                  clear c17
                  by_cases c18 : 0 ≤ x34_2
                  · rw [if_pos c18] at H
                    have c18b0 : decide (0 ≤ x34_2) = true := decide_eq_true c18
                    clear c18
                    by_cases c19 : x34_2 < (((rd_T30 l0 0).f2).length : Int)
                    · rw [if_pos c19] at H
                      have c19b0 : decide (x34_2 < (((rd_T30 l0 0).f2).length : Int)) = true := decide_eq_true c19
                      clear c19
                      by_cases c20 : 0 ≤ ((rd_T62 ((rd_T30 l0 0).f2) x34_2).f0.f1)
                      · rw [if_pos c20] at H
                        have c20b0 : decide (0 ≤ ((rd_T62 ((rd_T30 l0 0).f2) x34_2).f0.f1)) = true := decide_eq_true c20
                        clear c20
                        by_cases c21 : ((rd_T62 ((rd_T30 l0 0).f2) x34_2).f0.f1) < (x5_2.length : Int)
                        · rw [if_pos c21] at H
                          have c21b0 : decide (((rd_T62 ((rd_T30 l0 0).f2) x34_2).f0.f1) < (x5_2.length : Int)) = true := decide_eq_true c21
                          clear c21
                          replace H := Option.bind_eq_some_iff.mp H
                          obtain ⟨t222, A220, H⟩ := H
                          replace H : (if 0 ≤ ((rd_T62 ((rd_T30 l0 0).f2) x34_2).f0.f0) then (if ((rd_T62 ((rd_T30 l0 0).f2) x34_2).f0.f0) < ((rd_L11 x5_2 ((rd_T62 ((rd_T30 l0 0).f2) x34_2).f0.f1)).length : Int) then (impl_Board_picture__impl_Board_kindSign.l1 k2 (x5_2.set (((rd_T62 ((rd_T30 l0 0).f2) x34_2).f0.f1) : Int).toNat ((rd_L11 x5_2 ((rd_T62 ((rd_T30 l0 0).f2) x34_2).f0.f1)).set (((rd_T62 ((rd_T30 l0 0).f2) x34_2).f0.f0) : Int).toNat t222)) ((rd_T30 l0 0).f2) (((rd_T30 l0 0).f2).length : Int) (wrap64 (x34_2 + 1)) l1_0) else (none)) else (none)) = some r := H
                          have A22 := Aside0.mk A220
                          clear A220
                          by_cases c23 : 0 ≤ ((rd_T62 ((rd_T30 l0 0).f2) x34_2).f0.f0)
                          · rw [if_pos c23] at H
                            have c23b0 : decide (0 ≤ ((rd_T62 ((rd_T30 l0 0).f2) x34_2).f0.f0)) = true := decide_eq_true c23
                            clear c23
                            by_cases c24 : ((rd_T62 ((rd_T30 l0 0).f2) x34_2).f0.f0) < ((rd_L11 x5_2 ((rd_T62 ((rd_T30 l0 0).f2) x34_2).f0.f1)).length : Int)
                            · rw [if_pos c24] at H
                              have c24b0 : decide (((rd_T62 ((rd_T30 l0 0).f2) x34_2).f0.f0) < ((rd_L11 x5_2 ((rd_T62 ((rd_T30 l0 0).f2) x34_2).f0.f1)).length : Int)) = true := decide_eq_true c24
                              clear c24
                              obtain ⟨y223, hy223⟩ : ∃ y_ : List Int, y_ = ((rd_L11 x5_2 ((rd_T62 ((rd_T30 l0 0).f2) x34_2).f0.f1)).set (((rd_T62 ((rd_T30 l0 0).f2) x34_2).f0.f0) : Int).toNat t222) := ⟨_, rfl⟩
                              replace H : (impl_Board_picture__impl_Board_kindSign.l1 k2 (x5_2.set (((rd_T62 ((rd_T30 l0 0).f2) x34_2).f0.f1) : Int).toNat y223) ((rd_T30 l0 0).f2) (((rd_T30 l0 0).f2).length : Int) (wrap64 (x34_2 + 1)) l1_0) = some r := by first | (rw [hy223]; with_reducible exact H) | (have H2_ := (Option.bind_some _ _).symm.trans H; rw [hy223]; with_reducible exact H2_) | (have H2_ := (Option.bind_some _ _).symm.trans H; with_reducible exact H2_) | with_reducible exact H | (rw [hy223]; exact H) | exact H
                              have Ny223 := Aside0.mk hy223
                              clear hy223
                              obtain ⟨y225, hy225⟩ : ∃ y_ : List (List Int), y_ = (x5_2.set (((rd_T62 ((rd_T30 l0 0).f2) x34_2).f0.f1) : Int).toNat y223) := ⟨_, rfl⟩
                              replace H : (impl_Board_picture__impl_Board_kindSign.l1 k2 y225 ((rd_T30 l0 0).f2) (((rd_T30 l0 0).f2).length : Int) (wrap64 (x34_2 + 1)) l1_0) = some r := by first | (rw [hy225]; with_reducible exact H) | (have H2_ := (Option.bind_some _ _).symm.trans H; rw [hy225]; with_reducible exact H2_) | (have H2_ := (Option.bind_some _ _).symm.trans H; with_reducible exact H2_) | with_reducible exact H | (rw [hy225]; exact H) | exact H
                              have Ny225 := Aside0.mk hy225
                              clear hy225
                              have H' := Aside0.mk H
                              clear H
                              have p219 : 0 ≤ (x34_2 : Int) := of_decide_eq_true (by first | (with_reducible assumption) | assumption)
                              have q219 : x34_2 < (((rd_T30 l0 0).f2).length : Int) := of_decide_eq_true (by first | (with_reducible assumption) | assumption)
                              obtain ⟨ad219, e219, hx219_0, hx219_1, hx219_2, hx219_3, hx219_4⟩ := at_T62 HR218_2.out x34_2 p219 q219
                              cases e219
                              replace hx219_0 := (HB.out.cell (World.block_lt_of_cell? w _ hx219_0)).trans hx219_0
                              replace hx219_1 := (HB.out.cell (World.block_lt_of_cell? w _ hx219_1)).trans hx219_1
                              replace hx219_2 := (HB.out.cell (World.block_lt_of_cell? w _ hx219_2)).trans hx219_2
                              replace hx219_3 := (HB.out.cell (World.block_lt_of_cell? w _ hx219_3)).trans hx219_3
                              replace hx219_4 := (HB.out.cell (World.block_lt_of_cell? w _ hx219_4)).trans hx219_4
                              replace p219 := eq_true p219
                              replace q219 := eq_true q219
                              try go_wp2_with (first | ((with_reducible refine gate_dst (N := 7) rfl ?_); refine box_event ?hg (N := 7) ?hd (cs := #[.int .i8 0, .int .i8 0, .int .i8 0, .int .i8 0, .int .i8 0]) (t := 62) ?hr ?_; (case hd => rfl); (case hg => rfl); (case hr => first | (go_simp; done) | (go_simp; rfl)); intro gb220 hg w26 hbox hb; have n0_ := Aside0.mk (Kd.S_below (by (with_reducible repeat (first | apply Kd.S_alloc | apply Kd.S_drewN | apply Kd.S_drew)); exact HO_5.out) hb); have n1_ := Aside0.mk (below_step (by repeat (first | (with_reducible first | exact HB.out | apply below_alloc | apply pw_below_drewN | apply below_drew1) | exact HB.out)) hb); have n2_ := Aside0.mk (hbox); have n3_ := Aside0.mk ((by rw [hg]; exact (below_size (by repeat (first | (with_reducible first | exact HB.out | apply below_alloc | apply pw_below_drewN | apply below_drew1) | exact HB.out))) : w.heap.size ≤ gb220)); have n4_ := Aside0.mk ((by rw [hg]; exact (below_size (by repeat (first | (with_reducible first | exact HB.out | apply below_alloc | apply pw_below_drewN | apply below_drew1) | exact HB.out))) : w.heap.size ≤ gb220)); clear HO_5; clear HB; have HO_5 := n0_; have HB := n1_; have BK220 := n2_; have GW220 := n3_; have GE220 := n4_; clear n0_ n1_ n2_ n3_ n4_; clear hb hbox hg; have hcz27_0 : w26.cell? ⟨gb220, 0, none⟩ = some (.int .i8 0) := (blk_cell BK220.out 0).trans rfl; have hcz27_1 : w26.cell? ⟨gb220, 1, none⟩ = some (.int .i8 0) := (blk_cell BK220.out 1).trans rfl; have hcz27_2 : w26.cell? ⟨gb220, 2, none⟩ = some (.int .i8 0) := (blk_cell BK220.out 2).trans rfl; have hcz27_3 : w26.cell? ⟨gb220, 3, none⟩ = some (.int .i8 0) := (blk_cell BK220.out 3).trans rfl; have hcz27_4 : w26.cell? ⟨gb220, 4, none⟩ = some (.int .i8 0) := (blk_cell BK220.out 4).trans rfl; have hfz27_0 := blk_frozen BK220.out 0; have hfz27_1 := blk_frozen BK220.out 1; have hfz27_2 := blk_frozen BK220.out 2; have hfz27_3 := blk_frozen BK220.out 3; have hfz27_4 := blk_frozen BK220.out 4))
                              have n0_ : Aside0 (Kd.S (Kd.slice 5 (Kd.int .u8)) 88 (((((w26.setCell ⟨gb220, 0, none⟩ (.int .i8 ((rd_T62 ((rd_T30 l0 0).f2) x34_2).f0.f0))).setCell ⟨gb220, 1, none⟩ (.int .i8 ((rd_T62 ((rd_T30 l0 0).f2) x34_2).f0.f1))).setCell ⟨gb220, 2, none⟩ (.int .i8 ((rd_T62 ((rd_T30 l0 0).f2) x34_2).f1))).setCell ⟨gb220, 3, none⟩ (.int .i8 ((rd_T62 ((rd_T30 l0 0).f2) x34_2).f2))).setCell ⟨gb220, 4, none⟩ (.int .i8 ((rd_T62 ((rd_T30 l0 0).f2) x34_2).f3))) w.heap.size (fun _ => True) u5 x5_2) := ⟨by (with_reducible repeat (first | apply Kd.S_alloc | apply Kd.S_drewN | apply Kd.S_drew)); exact Kd.S_mono (Kd.S_far (p := ⟨gb220, 4, none⟩) (Kd.S_far (p := ⟨gb220, 3, none⟩) (Kd.S_far (p := ⟨gb220, 2, none⟩) (Kd.S_far (p := ⟨gb220, 1, none⟩) (Kd.S_far (p := ⟨gb220, 0, none⟩) (Kd.S_types HO_5.out BK220.out (by decide)) (fun _ hk => hk.2) (.int .i8 ((rd_T62 ((rd_T30 l0 0).f2) x34_2).f0.f0))) (fun _ hk => hk.2) (.int .i8 ((rd_T62 ((rd_T30 l0 0).f2) x34_2).f0.f1))) (fun _ hk => hk.2) (.int .i8 ((rd_T62 ((rd_T30 l0 0).f2) x34_2).f1))) (fun _ hk => hk.2) (.int .i8 ((rd_T62 ((rd_T30 l0 0).f2) x34_2).f2))) (fun _ hk => hk.2) (.int .i8 ((rd_T62 ((rd_T30 l0 0).f2) x34_2).f3))) (fun _ hk => trivial)⟩
                              have n1_ : Aside0 ((((((w26.setCell ⟨gb220, 0, none⟩ (.int .i8 ((rd_T62 ((rd_T30 l0 0).f2) x34_2).f0.f0))).setCell ⟨gb220, 1, none⟩ (.int .i8 ((rd_T62 ((rd_T30 l0 0).f2) x34_2).f0.f1))).setCell ⟨gb220, 2, none⟩ (.int .i8 ((rd_T62 ((rd_T30 l0 0).f2) x34_2).f1))).setCell ⟨gb220, 3, none⟩ (.int .i8 ((rd_T62 ((rd_T30 l0 0).f2) x34_2).f2))).setCell ⟨gb220, 4, none⟩ (.int .i8 ((rd_T62 ((rd_T30 l0 0).f2) x34_2).f3))).heap[gb220]? = some (.cells #[.int .i8 ((rd_T62 ((rd_T30 l0 0).f2) x34_2).f0.f0), .int .i8 ((rd_T62 ((rd_T30 l0 0).f2) x34_2).f0.f1), .int .i8 ((rd_T62 ((rd_T30 l0 0).f2) x34_2).f1), .int .i8 ((rd_T62 ((rd_T30 l0 0).f2) x34_2).f2), .int .i8 ((rd_T62 ((rd_T30 l0 0).f2) x34_2).f3)] 62 (0, 0))) := ⟨by (with_reducible repeat (first | refine blk_drewN ?_ _ | refine blk_drew ?_ | refine blk_alloc ?_ _)); refine blk_put (cs := #[.int .i8 ((rd_T62 ((rd_T30 l0 0).f2) x34_2).f0.f0), .int .i8 ((rd_T62 ((rd_T30 l0 0).f2) x34_2).f0.f1), .int .i8 ((rd_T62 ((rd_T30 l0 0).f2) x34_2).f1), .int .i8 ((rd_T62 ((rd_T30 l0 0).f2) x34_2).f2), .int .i8 0]) ?_ 4 _ rfl; (with_reducible repeat (first | refine blk_drewN ?_ _ | refine blk_drew ?_ | refine blk_alloc ?_ _)); refine blk_put (cs := #[.int .i8 ((rd_T62 ((rd_T30 l0 0).f2) x34_2).f0.f0), .int .i8 ((rd_T62 ((rd_T30 l0 0).f2) x34_2).f0.f1), .int .i8 ((rd_T62 ((rd_T30 l0 0).f2) x34_2).f1), .int .i8 0, .int .i8 0]) ?_ 3 _ rfl; (with_reducible repeat (first | refine blk_drewN ?_ _ | refine blk_drew ?_ | refine blk_alloc ?_ _)); refine blk_put (cs := #[.int .i8 ((rd_T62 ((rd_T30 l0 0).f2) x34_2).f0.f0), .int .i8 ((rd_T62 ((rd_T30 l0 0).f2) x34_2).f0.f1), .int .i8 0, .int .i8 0, .int .i8 0]) ?_ 2 _ rfl; (with_reducible repeat (first | refine blk_drewN ?_ _ | refine blk_drew ?_ | refine blk_alloc ?_ _)); refine blk_put (cs := #[.int .i8 ((rd_T62 ((rd_T30 l0 0).f2) x34_2).f0.f0), .int .i8 0, .int .i8 0, .int .i8 0, .int .i8 0]) ?_ 1 _ rfl; (with_reducible repeat (first | refine blk_drewN ?_ _ | refine blk_drew ?_ | refine blk_alloc ?_ _)); refine blk_put (cs := #[.int .i8 0, .int .i8 0, .int .i8 0, .int .i8 0, .int .i8 0]) ?_ 0 _ rfl; (with_reducible repeat (first | refine blk_drewN ?_ _ | refine blk_drew ?_ | refine blk_alloc ?_ _)); exact BK220.out⟩
                              have n2_ : Aside0 (Below w.heap.size w (((((w26.setCell ⟨gb220, 0, none⟩ (.int .i8 ((rd_T62 ((rd_T30 l0 0).f2) x34_2).f0.f0))).setCell ⟨gb220, 1, none⟩ (.int .i8 ((rd_T62 ((rd_T30 l0 0).f2) x34_2).f0.f1))).setCell ⟨gb220, 2, none⟩ (.int .i8 ((rd_T62 ((rd_T30 l0 0).f2) x34_2).f1))).setCell ⟨gb220, 3, none⟩ (.int .i8 ((rd_T62 ((rd_T30 l0 0).f2) x34_2).f2))).setCell ⟨gb220, 4, none⟩ (.int .i8 ((rd_T62 ((rd_T30 l0 0).f2) x34_2).f3)))) := ⟨by repeat (first | (with_reducible first | exact HB.out | apply below_alloc | apply pw_below_drewN | apply below_drew1 | refine below_set ?_ GE220.out) | exact HB.out)⟩
                              (try clear HO_5)
                              (try clear BK220)
                              (try clear HB)
                              generalize (((((w26.setCell ⟨gb220, 0, none⟩ (.int .i8 ((rd_T62 ((rd_T30 l0 0).f2) x34_2).f0.f0))).setCell ⟨gb220, 1, none⟩ (.int .i8 ((rd_T62 ((rd_T30 l0 0).f2) x34_2).f0.f1))).setCell ⟨gb220, 2, none⟩ (.int .i8 ((rd_T62 ((rd_T30 l0 0).f2) x34_2).f1))).setCell ⟨gb220, 3, none⟩ (.int .i8 ((rd_T62 ((rd_T30 l0 0).f2) x34_2).f2))).setCell ⟨gb220, 4, none⟩ (.int .i8 ((rd_T62 ((rd_T30 l0 0).f2) x34_2).f3))) = w28 at n0_ n1_ n2_ ⊢
                              have HO_5 := n0_
                              have BK220 := n1_
                              have HB := n2_
                              clear n0_ n1_ n2_
                              have n0_ := Aside0.mk (Kd.S_drew HO_5.out)
                              have n1_ := Aside0.mk (blk_drew BK220.out)
                              have n2_ := Aside0.mk (below_drew1 HB.out)
                              clear HO_5
                              clear BK220
                              clear HB
                              have HO_5 := n0_
                              have BK220 := n1_
                              have HB := n2_
                              clear n0_ n1_ n2_
                              obtain ⟨Ao30, co30, eo30⟩ := Kd.S_slice HO_5.out
                              (first | subst eo30 | (injection eo30 with f1_ f2_ f3_; have f4_ := f1_.symm; have f5_ := f3_.symm; clear f1_ f2_ f3_; subst f4_; subst f5_))
                              have p221 : 0 ≤ (((rd_T62 ((rd_T30 l0 0).f2) x34_2).f0.f1) : Int) := of_decide_eq_true (by first | (with_reducible assumption) | assumption)
                              have q221 : ((rd_T62 ((rd_T30 l0 0).f2) x34_2).f0.f1) < (x5_2.length : Int) := of_decide_eq_true (by first | (with_reducible assumption) | assumption)
                              obtain ⟨ad221, A221_0, c221_0, e221, hx221_0, hl221_0, hi221_0⟩ := at_L11 (Kd.S_reads' HO_5.out).2.2 ((rd_T62 ((rd_T30 l0 0).f2) x34_2).f0.f1) p221 q221
                              cases e221
                              obtain ⟨ce221, hce221, hMe221, hcc221⟩ := Kd.S_get HO_5.out [] ((rd_T62 ((rd_T30 l0 0).f2) x34_2).f0.f1) p221 (by first | exact q221 | exact of_decide_eq_true (by first | (with_reducible assumption) | assumption) | (have e_ := (Kd.S_reads' HO_5.out).1; omega))
                              obtain ⟨ve221_0, rfl, ge221_0⟩ := hMe221
                              have hv221_0 := hcc221 0 _ rfl
                              rw [Nat.add_zero, show ((Kd.slice 5 (Kd.int .u8))).sz = 1 from rfl, Nat.mul_one] at hv221_0
                              replace hv221_0 := Option.some.inj (hv221_0.symm.trans hx221_0)
                              rw [hv221_0] at ge221_0
                              have HL221_0 := Aside0.mk (show Kd.R (Kd.int .u8) 5 _ _ _ _ (rd_L11 x5_2 ((rd_T62 ((rd_T30 l0 0).f2) x34_2).f0.f1)) from ge221_0)
                              clear hv221_0 ge221_0
                              have HX221_0 := Aside0.mk hx221_0
                              clear hcc221 hce221
                              have HR221_0 := Aside0.mk hi221_0
                              have HC221_0 := Aside0.mk hl221_0
                              clear hi221_0 hl221_0
                              replace p221 := eq_true p221
                              replace q221 := eq_true q221
                              refine start_ (n := 14) (S := fun w' => w'.cell? ⟨gb220, 0, none⟩ = some (.int .i8 ((rd_T62 ((rd_T30 l0 0).f2) x34_2).f0.f0)) ∧ w'.cell? ⟨gb220, 1, none⟩ = some (.int .i8 ((rd_T62 ((rd_T30 l0 0).f2) x34_2).f0.f1)) ∧ w'.cell? ⟨gb220, 2, none⟩ = some (.int .i8 ((rd_T62 ((rd_T30 l0 0).f2) x34_2).f1)) ∧ w'.cell? ⟨gb220, 3, none⟩ = some (.int .i8 ((rd_T62 ((rd_T30 l0 0).f2) x34_2).f2)) ∧ w'.cell? ⟨gb220, 4, none⟩ = some (.int .i8 ((rd_T62 ((rd_T30 l0 0).f2) x34_2).f3)) ∧ w'.cell? (ad221.add (((rd_T62 ((rd_T30 l0 0).f2) x34_2).f0.f1)).toNat) = some (.slice A221_0 (rd_L11 x5_2 ((rd_T62 ((rd_T30 l0 0).f2) x34_2).f0.f1)).length c221_0)) (ds := [13]) #[false, false, false, false, false, false, false, false, false, false, false, false, false, false] (by kernel_rfl) rfl rfl ⟨(blk_cell BK220.out 0).trans rfl, (blk_cell BK220.out 1).trans rfl, (blk_cell BK220.out 2).trans rfl, (blk_cell BK220.out 3).trans rfl, (blk_cell BK220.out 4).trans rfl, hx221_0⟩ (fun hHeld => ?_); refine with_tabW impl_Board_picture__impl_Board_kindSign.tab9 impl_Board_picture__impl_Board_kindSign.bits9 (fun HT_ HW_ => ?_)
                              generalize w28.drew = w29 at HO_5 BK220 HB HL221_0 HR221_0 HX221_0 hx221_0 hHeld ⊢
                              refine pure_ (i := 0) (N := some 39) (v := ?_) (a' := ?_) #[true, false, false, false, false, false, false, false, false, false, false, false, false, false] rfl rfl (any_of HT_.out (by kernel_rfl)) (fun _ _ _ h => h) (Or.inl ⟨by rfl, ?_⟩) ?_ ?_
                              rotate_left
                              · intro w'
                                go_simp
                                with_reducible rfl
                              rotate_left
                              · simp only [Act.put, List.setIfInBounds_toArray, List.set_cons_zero, List.set_cons_succ, i64_w, i32_w]
                                rfl
                              refine pure_ (i := 1) (N := some 40) (v := ?_) (a' := ?_) #[true, true, false, false, false, false, false, false, false, false, false, false, false, false] rfl rfl (any_of HT_.out (by kernel_rfl)) (fun _ _ _ h => h) (Or.inl ⟨by rfl, ?_⟩) ?_ ?_
                              rotate_left
                              · intro w'
                                go_simp
                                with_reducible rfl
                              rotate_left
                              · simp only [Act.put, List.setIfInBounds_toArray, List.set_cons_zero, List.set_cons_succ, i64_w, i32_w]
                                rfl
                              refine pure_ (i := 2) (N := some 41) (v := ?_) (a' := ?_) #[true, true, true, false, false, false, false, false, false, false, false, false, false, false] rfl rfl (any_of HT_.out (by kernel_rfl)) (fun _ _ _ h => h) (Or.inl ⟨by rfl, ?_⟩) ?_ ?_
                              rotate_left
                              · intro w'
                                go_simp
                                with_reducible rfl
                              rotate_left
                              · simp only [Act.put, List.setIfInBounds_toArray, List.set_cons_zero, List.set_cons_succ, i64_w, i32_w]
                                rfl
                              refine pure_ (i := 6) (N := some 45) (v := ?_) (a' := ?_) #[true, true, true, false, false, false, true, false, false, false, false, false, false, false] rfl rfl (any_of HT_.out (by kernel_rfl)) (fun _ _ _ h => h) (Or.inl ⟨by rfl, ?_⟩) ?_ ?_
                              rotate_left
                              · intro w'
                                go_simp
                                with_reducible rfl
                              rotate_left
                              · simp only [Act.put, List.setIfInBounds_toArray, List.set_cons_zero, List.set_cons_succ, i64_w, i32_w]
                                rfl
                              refine pure_ (i := 7) (N := some 46) (v := ?_) (a' := ?_) #[true, true, true, false, false, false, true, true, false, false, false, false, false, false] rfl rfl (any_of HT_.out (by kernel_rfl)) (fun _ _ _ h => h) (Or.inl ⟨by rfl, ?_⟩) ?_ ?_
                              rotate_left
                              · intro w'
                                go_simp
                                with_reducible rfl
                              rotate_left
                              · simp only [Act.put, List.setIfInBounds_toArray, List.set_cons_zero, List.set_cons_succ, i64_w, i32_w]
                                rfl
                              refine pure_ (i := 9) (N := some 48) (v := ?_) (a' := ?_) #[true, true, true, false, false, false, true, true, false, true, false, false, false, false] rfl rfl (any_of HT_.out (by kernel_rfl)) (fun _ _ _ h => h) (Or.inl ⟨by rfl, ?_⟩) ?_ ?_
                              rotate_left
                              · intro w'
                                go_simp
                                with_reducible rfl
                              rotate_left
                              · simp only [Act.put, List.setIfInBounds_toArray, List.set_cons_zero, List.set_cons_succ, i64_w, i32_w]
                                rfl
                              refine pure_ (i := 10) (N := some 49) (v := ?_) (a' := ?_) #[true, true, true, false, false, false, true, true, false, true, true, false, false, false] rfl rfl (any_of HT_.out (by kernel_rfl)) (fun _ _ _ h => h) (Or.inl ⟨by rfl, ?_⟩) ?_ ?_
                              rotate_left
                              · intro w'
                                go_simp
                                with_reducible rfl
                              rotate_left
                              · simp only [Act.put, List.setIfInBounds_toArray, List.set_cons_zero, List.set_cons_succ, i64_w, i32_w]
                                rfl
                              refine take_ (i := 3) (N := some 42) (v := ?_) (a' := ?_) #[true, true, true, true, false, false, true, true, false, true, true, false, false, false] rfl rfl (take_ofW HT_.out HW_.out (by kernel_rfl)) (fun _ _ _ h => h) (Or.inl ⟨by rfl, ?_⟩) hHeld ?_ ?_
                              rotate_left
                              · rintro w' ⟨s0, s1, s2, s3, s4, s5⟩
                                go_simp
                                with_reducible rfl
                              rotate_left
                              · simp only [Act.put, List.setIfInBounds_toArray, List.set_cons_zero, List.set_cons_succ, i64_w, i32_w]
                                rfl
                              refine pure_ (i := 4) (N := some 43) (v := ?_) (a' := ?_) #[true, true, true, true, true, false, true, true, false, true, true, false, false, false] rfl rfl (any_of HT_.out (by kernel_rfl)) (fun _ _ _ h => h) (Or.inl ⟨by rfl, ?_⟩) ?_ ?_
                              rotate_left
                              · intro w'
                                go_simp
                                with_reducible rfl
                              rotate_left
                              · simp only [Act.put, List.setIfInBounds_toArray, List.set_cons_zero, List.set_cons_succ, i64_w, i32_w]
                                rfl
                              refine take_ (i := 5) (N := some 44) (v := ?_) (a' := ?_) #[true, true, true, true, true, true, true, true, false, true, true, false, false, false] rfl rfl (take_ofW HT_.out HW_.out (by kernel_rfl)) (fun _ _ _ h => h) (Or.inl ⟨by rfl, ?_⟩) hHeld ?_ ?_
                              rotate_left
                              · rintro w' ⟨s0, s1, s2, s3, s4, s5⟩
                                go_simp
                                with_reducible rfl
                              rotate_left
                              · simp only [Act.put, List.setIfInBounds_toArray, List.set_cons_zero, List.set_cons_succ, i64_w, i32_w]
                                rfl
                              refine take_ (i := 8) (N := some 47) (v := ?_) (a' := ?_) #[true, true, true, true, true, true, true, true, true, true, true, false, false, false] rfl rfl (take_ofW HT_.out HW_.out (by kernel_rfl)) (fun _ _ _ h => h) (Or.inl ⟨by rfl, ?_⟩) hHeld ?_ ?_
                              rotate_left
                              · rintro w' ⟨s0, s1, s2, s3, s4, s5⟩
                                go_simp
                                with_reducible rfl
                              rotate_left
                              · simp only [Act.put, List.setIfInBounds_toArray, List.set_cons_zero, List.set_cons_succ, i64_w, i32_w]
                                rfl
                              refine one_ (i := 11) (N := some 50) #[true, true, true, true, true, true, true, true, true, true, true, true, false, false] rfl rfl (one_of HT_.out (by kernel_rfl)) (by decide) (fun K hK => ?_)
                              refine goesv_ Try.func36 (by kernel_rfl) rfl #[.pointer (some adp1_0), .int .i64 x34_2] #[.pointer (some adp1_0)] #[] (by rfl) rfl rfl rfl rfl (by rfl) ?_
                              with_reducible refine (impl_Board_kindSign.calls _ l1_0 x34_2 t222 _ ?side1 A22.out).mono ?_
                              (case side1 => repeat (first | exact (Kd.C_below HR1_0.out HB.out) | (with_reducible refine Kd.C_alloc ?_ _) | (with_reducible refine Kd.C_drewN ?_ _) | (with_reducible refine Kd.C_drew ?_)))
                              rintro e w' ⟨rfl, ⟨nd, rfl⟩⟩
                              refine ⟨_, rfl, ?_⟩
                              have p25 : 0 ≤ (((rd_T62 ((rd_T30 l0 0).f2) x34_2).f0.f0) : Int) := of_decide_eq_true (by first | (with_reducible assumption) | assumption)
                              have q25 : (((rd_T62 ((rd_T30 l0 0).f2) x34_2).f0.f0) : Int) < (((rd_L11 x5_2 ((rd_T62 ((rd_T30 l0 0).f2) x34_2).f0.f1)).length : Int) : Int) := of_decide_eq_true (by first | (with_reducible assumption) | assumption)
                              obtain ⟨go25, co25, eo25, gb25, gl25, cl25, HG25⟩ := Kd.R_form HL221_0.out (by omega)
                              (first | cases eo25 | (injection eo25 with ea_ en_ ec_; (first | subst ea_ | (injection ea_ with ea_; subst ea_)); subst ec_; clear en_))
                              have GB25 := Aside0.mk gb25
                              have GG25 := Aside0.mk HG25
                              clear gb25 gl25 HG25
                              obtain ⟨hx25_0, hf25_0⟩ := Kd.R_celln 0 HL221_0.out (((rd_T62 ((rd_T30 l0 0).f2) x34_2).f0.f0) : Int) p25 q25
                              replace p25 := eq_true p25
                              replace q25 := eq_true q25
                              have hq31 : (((rd_T62 ((rd_T30 l0 0).f2) x34_2).f0.f1) : Int) < (x5_2.length : Int) := (by have h_ : (((rd_T62 ((rd_T30 l0 0).f2) x34_2).f0.f1) : Int) < ((x5_2.length : Int) : Int) := of_decide_eq_true (by first | (with_reducible assumption) | assumption); first | exact h_ | (have e_ := (Kd.S_reads' HO_5.out).1; omega) | simpa only [List.length_set, List.length_set] using h_)
                              obtain ⟨oki31, ce31, hcl31, hM31, hcc31, hok31, hbk31⟩ := Kd.S_borrow HO_5.out [] (((rd_T62 ((rd_T30 l0 0).f2) x34_2).f0.f1) : Int) (of_decide_eq_true (by first | (with_reducible assumption) | assumption)) hq31
                              obtain ⟨ve31_0, rfl, ge31_0⟩ := hM31
                              have hv31 := hcc31 0 _ rfl
                              rw [Nat.add_zero, show ((Kd.slice 5 (Kd.int .u8))).sz = 1 from rfl, Nat.mul_one] at hv31
                              replace hv31 := Option.some.inj (hv31.symm.trans HX221_0.out)
                              subst hv31
                              clear hcc31 hcl31
                              replace ge31_0 := (show Kd.R (Kd.int .u8) 5 _ _ _ _ (rd_L11 x5_2 ((rd_T62 ((rd_T30 l0 0).f2) x34_2).f0.f1)) from ge31_0)
                              have HP31 := Kd.R_putg ge31_0 (((rd_T62 ((rd_T30 l0 0).f2) x34_2).f0.f0) : Int) t222
                              rw [← Ny223.out] at HP31
                              have HS31 := hbk31 HP31.2 (fun k_ e_ => by injection e_ with e_; subst e_; exact ge31_0.1 _ rfl) (x' := y223) (Kd.M_row HP31.1)
                              rw [← Ny225.out] at HS31
                              have HQ31 := Aside0.mk HS31
                              clear HP31 HS31 hbk31 hok31
                              refine hK.out _ _ ⟨(blk_cell BK220.out 0).trans rfl, (blk_cell BK220.out 1).trans rfl, (blk_cell BK220.out 2).trans rfl, (blk_cell BK220.out 3).trans rfl, (blk_cell BK220.out 4).trans rfl, hHeld.2.2.2.2.2⟩ (fun hHeld => ?_)
                              clear hK K
                              refine norm_ (a' := ?_) ?_ ?_
                              rotate_left
                              · show Act.put _ (some 50) _ = _
                                simp only [Act.put, List.setIfInBounds_toArray, List.set_cons_zero, List.set_cons_succ, i64_w, i32_w]
                                rfl
                              refine pure_ (i := 12) (N := some 51) (v := ?_) (a' := ?_) #[true, true, true, true, true, true, true, true, true, true, true, true, true, false] rfl rfl (any_of HT_.out (by kernel_rfl)) (fun _ _ _ h => h) (Or.inl ⟨by rfl, ?_⟩) ?_ ?_
                              rotate_left
                              · intro w'
                                go_simp
                                with_reducible rfl
                              rotate_left
                              · simp only [Act.put, List.setIfInBounds_toArray, List.set_cons_zero, List.set_cons_succ, i64_w, i32_w]
                                rfl
                              refine last_ (i := 13) (N := none) #[true, true, true, true, true, true, true, true, true, true, true, true, true, true] rfl rfl (one_of HT_.out (by kernel_rfl)) (by decide) (fun K hK => ?_)
                              refine skip_ (w1 := ?_) (by rfl) rfl ?_ ?_
                              rotate_left
                              · go_simp
                                rfl
                              refine hK.out _ _ ?_
                              clear hK K
                              refine done_ (done_of HT_.out (by kernel_rfl)) ?_
                              try go_wp2
                              go_roundg k2
                              case measure => have := HK1.out; have := HK2.out; omega
                              case rel => exact ⟨(y225), (wrap64 (x34_2 + 1)), (by first | rfl | (simp; done) | (simp [*]; done) | (exact congrArg (Value.int .i64) (wrap_eq (by omega)))), H', ⟨by have := HK1.out; have := HK2.out; omega⟩, ⟨by (with_reducible repeat (first | apply Kd.S_alloc | apply Kd.S_drewN | apply Kd.S_drew)); exact HQ31.out⟩, ⟨by repeat (first | (with_reducible first | exact HB.out | apply below_alloc | apply pw_below_drewN | apply below_drew1 | refine below_set ?_ GB25.out | refine below_set ?_ GE220.out) | exact HB.out)⟩⟩
                            · rw [if_neg c24] at H
                              exact absurd H (by simp)
                          · rw [if_neg c23] at H
                            exact absurd H (by simp)
                        · rw [if_neg c21] at H
                          exact absurd H (by simp)
                      · rw [if_neg c20] at H
                        exact absurd H (by simp)
                    · rw [if_neg c19] at H
                      exact absurd H (by simp)
                  · rw [if_neg c18] at H
                    exact absurd H (by simp)
                · rw [if_neg c17] at H
                  have c17b0 : decide (x34_2 < (((rd_T30 l0 0).f2).length : Int)) = false := decide_eq_false c17
                  clear c17
                  obtain ⟨y226, hy226⟩ : ∃ y_ : List ByteArray, y_ = (([] : List ByteArray)) := ⟨_, rfl⟩
                  replace H : (impl_Board_picture__impl_Board_kindSign.l2 k2 y226 x5_2 (x5_2.length : Int) 0) = some r := by first | (rw [hy226]; with_reducible exact H) | (have H2_ := (Option.bind_some _ _).symm.trans H; rw [hy226]; with_reducible exact H2_) | (have H2_ := (Option.bind_some _ _).symm.trans H; with_reducible exact H2_) | with_reducible exact H | (rw [hy226]; exact H) | exact H
                  have Ny226 := Aside0.mk hy226
                  clear hy226
                  have H' := Aside0.mk H
                  clear H
                  go_wp2_with (first | ((with_reducible refine gate_dst (N := 53) rfl ?_); refine Kd.R_lit Kd.string _ 9 ?hg (N := 53) ?hd (xs := ([] : List ByteArray)) (inner := []) (ok := fun _ => True) (okp := fun _ => True) ?hr ?hp (fun _ hk => hk) trivial (Below.refl _ _) (Nat.le_refl _) (by simp) ?_; (case hd => rfl); (case hg => rfl); (case hr => first | (go_simp; done) | (go_simp; rfl)); (case hp => exact (Reps.none _ _)); intro v227 w33 ho34 hb hg_ hnew_; clear hg_ hnew_; (first | rw [← Ny226.out] at ho34 | (simp only [Int.reduceToNat] at ho34; rw [← Ny226.out] at ho34)); have n0_ := Aside0.mk (Kd.S_below (by (with_reducible repeat (first | apply Kd.S_alloc | apply Kd.S_drewN | apply Kd.S_drew)); exact HO_5.out) hb); have n1_ := Aside0.mk (Kd.R_lower ho34 (below_size (by repeat (first | (with_reducible first | exact HB.out | apply below_alloc | apply pw_below_drewN | apply below_drew1) | exact HB.out)))); have n2_ := Aside0.mk (below_step (by repeat (first | (with_reducible first | exact HB.out | apply below_alloc | apply pw_below_drewN | apply below_drew1) | exact HB.out)) hb); clear HO_5; clear HB; have HO_5 := n0_; have HO228 := n1_; have HB := n2_; clear n0_ n1_ n2_; clear hb ho34; obtain ⟨Ao35, co35, eo35⟩ := Kd.S_slice HO_5.out; subst eo35))
                  go_loopg [8, 56] k2 (fun kq v8 v56 w' => ∃ (x8_3 : List ByteArray) (x56_3 : Int), v56 = .int .i64 x56_3 ∧ Aside0 (impl_Board_picture__impl_Board_kindSign.l2 kq x8_3 x5_2 (x5_2.length : Int) x56_3 = some r) ∧ Aside0 (kq ≤ k2) ∧ Aside0 (Kd.R Kd.string 9 w' w.heap.size (fun _ => True) v8 x8_3) ∧ Aside0 (Kd.S (Kd.slice 5 (Kd.int .u8)) 88 w' w.heap.size (fun _ => True) (.slice Ao35 x5_2.length co35) x5_2) ∧ Aside0 (Below w.heap.size w w'))
                  case atStart => exact ⟨(y226), (0), (by first | rfl | (simp; done) | (simp [*]; done) | (exact congrArg (Value.int .i64) (wrap_eq (by omega)))), H', ⟨Nat.le_refl _⟩, ⟨by (with_reducible repeat (first | apply Kd.R_alloc | apply Kd.R_drewN | apply Kd.R_drew)); exact HO228.out⟩, ⟨by (with_reducible repeat (first | apply Kd.S_alloc | apply Kd.S_drewN | apply Kd.S_drew)); exact HO_5.out⟩, ⟨by repeat (first | (with_reducible first | exact HB.out | apply below_alloc | apply pw_below_drewN | apply below_drew1) | exact HB.out)⟩⟩
                  case round =>
                    clear H'
                    try clear c1
                    try clear p1
                    try clear c2
                    try clear p2
                    try clear q2
                    try clear hx2
                    try clear qi2
                    try clear hf2
                    try clear c3
                    try clear c3b0
                    try clear c3b1
                    try clear q3
                    try clear c5
                    try clear c6
                    try clear c6b0
                    try clear p6
                    try clear c7
                    try clear c7b0
                    try clear c7b1
                    try clear c9
                    try clear c16
                    try clear c16b0
                    try clear c16b1
                    try clear c17
                    try clear c17b0
                    try clear c18
                    try clear c18b0
                    try clear c19
                    try clear c19b0
                    try clear c20
                    try clear c20b0
                    try clear p20
                    try clear q20
                    try clear hx20
                    try clear qi20
                    try clear c21
                    try clear c21b0
                    try clear p21
                    try clear q21
                    try clear hx21
                    try clear qi21
                    try clear c22
                    try clear p22
                    try clear q22
                    try clear hx22
                    try clear c23
                    try clear c23b0
                    try clear c24
                    try clear c24b0
                    try clear p25
                    try clear q25
                    try clear hx25
                    try clear hf25
                    try clear c31
                    try clear q31
                    try clear hcz27_0
                    try clear hcz27_1
                    try clear hcz27_2
                    try clear hcz27_3
                    try clear hcz27_4
                    try clear hfz27_0
                    try clear hfz27_1
                    try clear hfz27_2
                    try clear hfz27_3
                    try clear hfz27_4
                    try clear hx207_0
                    try clear hx207_1
                    try clear hx207_2
                    try clear hx211_0
                    try clear hx211_1
                    try clear hx211_2
                    try clear hx218_0
                    try clear hx218_1
                    try clear hx218_2
                    try clear hx219_0
                    try clear hx219_1
                    try clear hx219_2
                    try clear hx219_3
                    try clear hx219_4
                    try clear hx221_0
                    try clear hx25_0
                    try clear p2
                    try clear p207
                    try clear p211
                    try clear p218
                    try clear p219
                    try clear p221
                    try clear p25
                    try clear p6
                    try clear q2
                    try clear q207
                    try clear q211
                    try clear q218
                    try clear q219
                    try clear q221
                    try clear q25
                    obtain ⟨x8_3, x56_3, rfl, HA, HK3, HO_8, HO_54, HB⟩ := hrel
                    cases gk with
                    | zero => exact absurd HA.out (by simp [impl_Board_picture__impl_Board_kindSign.l2])
                    | succ k3 =>
                      have H := HA.out
                      clear HA
                      simp only [impl_Board_picture__impl_Board_kindSign.l2] at H
                      by_cases c36 : x56_3 < (x5_2.length : Int)
                      · rw [if_pos c36] at H
                        have c36b0 : decide (x56_3 < (x5_2.length : Int)) = true := decide_eq_true c36
                        clear c36
                        by_cases c37 : 0 ≤ x56_3
                        · rw [if_pos c37] at H
                          have c37b0 : decide (0 ≤ x56_3) = true := decide_eq_true c37
                          clear c37
                          by_cases c38 : x56_3 < (x5_2.length : Int)
                          · rw [if_pos c38] at H
                            have c38b0 : decide (x56_3 < (x5_2.length : Int)) = true := decide_eq_true c38
                            clear c38
                            by_cases c39 : x8_3.length < 8796093022208
                            · rw [if_pos c39] at H
                              have LMc39 := Aside0.mk c39
                              clear c39
                              obtain ⟨y230, hy230⟩ : ∃ y_ : List ByteArray, y_ = (x8_3 ++ [strOfNums (rd_L11 x5_2 x56_3)]) := ⟨_, rfl⟩
                              replace H : (impl_Board_picture__impl_Board_kindSign.l2 k3 y230 x5_2 (x5_2.length : Int) (wrap64 (x56_3 + 1))) = some r := by first | (rw [hy230]; with_reducible exact H) | (have H2_ := (Option.bind_some _ _).symm.trans H; rw [hy230]; with_reducible exact H2_) | (have H2_ := (Option.bind_some _ _).symm.trans H; with_reducible exact H2_) | with_reducible exact H | (rw [hy230]; exact H) | exact H
                              have Ny230 := Aside0.mk hy230
                              clear hy230
                              have H' := Aside0.mk H
                              clear H
                              have p229 : 0 ≤ (x56_3 : Int) := of_decide_eq_true (by first | (with_reducible assumption) | assumption)
                              have q229 : x56_3 < (x5_2.length : Int) := of_decide_eq_true (by first | (with_reducible assumption) | assumption)
                              obtain ⟨ad229, A229_0, c229_0, e229, hx229_0, hl229_0, hi229_0⟩ := at_L11 (Kd.S_reads' HO_54.out).2.2 x56_3 p229 q229
                              cases e229
                              obtain ⟨ce229, hce229, hMe229, hcc229⟩ := Kd.S_get HO_54.out [] x56_3 p229 (by first | exact q229 | exact of_decide_eq_true (by first | (with_reducible assumption) | assumption) | (have e_ := (Kd.S_reads' HO_54.out).1; omega))
                              obtain ⟨ve229_0, rfl, ge229_0⟩ := hMe229
                              have hv229_0 := hcc229 0 _ rfl
                              rw [Nat.add_zero, show ((Kd.slice 5 (Kd.int .u8))).sz = 1 from rfl, Nat.mul_one] at hv229_0
                              replace hv229_0 := Option.some.inj (hv229_0.symm.trans hx229_0)
                              rw [hv229_0] at ge229_0
                              have HL229_0 := Aside0.mk (show Kd.R (Kd.int .u8) 5 _ _ _ _ (rd_L11 x5_2 x56_3) from ge229_0)
                              clear hv229_0 ge229_0
                              have HX229_0 := Aside0.mk hx229_0
                              clear hcc229 hce229
                              have HR229_0 := Aside0.mk hi229_0
                              have HC229_0 := Aside0.mk hl229_0
                              clear hi229_0 hl229_0
                              replace p229 := eq_true p229
                              replace q229 := eq_true q229
                              have hcv40 := Kd.C_string (P := Try.prog) (A := A229_0) (c := c229_0) Try.underlying88 Try.underlying5 Try.underlying9 (by repeat (first | (with_reducible exact HR229_0.out) | (with_reducible refine Kd.C_alloc ?_ _) | (with_reducible refine Kd.C_drewN ?_ _) | (with_reducible refine Kd.C_drew ?_) | exact HR229_0.out))
                              go_wp2_with (first | ((with_reducible refine gate_builtin (b := .append) (xs := #[.tmp 60, .tmp 63]) rfl ?_); at_builtin; refine Kd.R_append Kd.string (w0 := w) w.heap.size rfl (.tmp 60) (.tmp 63) 39 9 (.string ⟨#[]⟩) 16 rfl Try.underlying39 info9 rfl (by decide) (by omega) u8 x8_3 (strOfNums (rd_L11 x5_2 x56_3)) [.string (strOfNums (rd_L11 x5_2 x56_3))] (fun _ => True) (fun _ => False) rfl rfl ?aP (fun _ hk => hk.elim) ?aF ?aO ?aB ?aS ?aL ?_; (case aP => exact rfl); (case aB => exact (by repeat (first | (with_reducible first | exact HB.out | apply below_alloc | apply pw_below_drewN | apply below_drew1) | exact HB.out))); (case aF => exact (fun _ _ => trivial)); (case aO => exact (by (with_reducible repeat (first | apply Kd.R_alloc | apply Kd.R_drewN | apply Kd.R_drew)); exact HO_8.out)); (case aS => exact (below_size (by repeat (first | (with_reducible first | exact HB.out | apply below_alloc | apply pw_below_drewN | apply below_drew1) | exact HB.out)))); (case aL => have := LMc39.out; omega); intro v231 w41 ho hb hg hat; rw [← Ny230.out] at ho; have n0_ := Aside0.mk (Kd.S_over' (by (with_reducible repeat (first | apply Kd.S_alloc | apply Kd.S_drewN | apply Kd.S_drew)); exact HO_54.out) (Kd.R_typed (by (with_reducible repeat (first | apply Kd.R_alloc | apply Kd.R_drewN | apply Kd.R_drew)); exact HO_8.out)) (by decide) hg); have n1_ := Aside0.mk (Kd.R_over' (by (with_reducible repeat (first | apply Kd.R_alloc | apply Kd.R_drewN | apply Kd.R_drew)); exact HL229_0.out) (Kd.R_typed (by (with_reducible repeat (first | apply Kd.R_alloc | apply Kd.R_drewN | apply Kd.R_drew)); exact HO_8.out)) (by decide) hg); have n2_ := Aside0.mk (hb); have n3_ := Aside0.mk (ho); clear HO_54; clear HL229_0; clear HB; clear HO_8; have HO_54 := n0_; have HL229_0 := n1_; have HB := n2_; have HO232 := n3_; clear n0_ n1_ n2_ n3_; clear ho hb hg hat))
                              go_roundg k3
                              case measure => have := HK1.out; have := HK2.out; have := HK3.out; omega
                              case rel => exact ⟨(y230), (wrap64 (x56_3 + 1)), (by first | rfl | (simp; done) | (simp [*]; done) | (exact congrArg (Value.int .i64) (wrap_eq (by omega)))), H', ⟨by have := HK1.out; have := HK2.out; have := HK3.out; omega⟩, ⟨by (with_reducible repeat (first | apply Kd.R_alloc | apply Kd.R_drewN | apply Kd.R_drew)); exact HO232.out⟩, ⟨by (with_reducible repeat (first | apply Kd.S_alloc | apply Kd.S_drewN | apply Kd.S_drew)); exact HO_54.out⟩, ⟨by repeat (first | (with_reducible first | exact HB.out | apply below_alloc | apply pw_below_drewN | apply below_drew1) | exact HB.out)⟩⟩
                            · rw [if_neg c39] at H
                              exact absurd H (by simp)
                          · rw [if_neg c38] at H
                            exact absurd H (by simp)
                        · rw [if_neg c37] at H
                          exact absurd H (by simp)
                      · rw [if_neg c36] at H
                        have c36b0 : decide (x56_3 < (x5_2.length : Int)) = false := decide_eq_false c36
                        clear c36
                        obtain rfl := Option.some.inj H
                        go_wp2
                        go_ret
                        exact ⟨_, by first | rfl | (simp [errW_none, errW_some] <;> rfl) | (simp [*, errW_none, errW_some] <;> rfl), by (with_reducible repeat (first | apply Kd.R_alloc | apply Kd.R_drewN | apply Kd.R_drew)); exact HO_8.out, by repeat (first | (with_reducible first | exact HB.out | apply below_alloc | apply pw_below_drewN | apply below_drew1) | exact HB.out)⟩
          · rw [if_neg c16] at H
            exact absurd H (by simp)
  · rw [if_neg c3] at H
    exact absurd H (by simp)

/-! ### impl_BoardPicture: function 15 -/
def impl_BoardPicture.f (k : Nat) (a0_0 : Int) (a0_1 : Int) (l0_2 : List (S62)) : Option (List ByteArray × Int) := (impl_ValidBoard.f k a0_0 a0_1 l0_2).bind fun t234 => (if t234 = true then ((impl_Board_picture__impl_Board_kindSign.f k [(⟨a0_0, a0_1, l0_2⟩ : S30)] [(⟨a0_0, a0_1, l0_2⟩ : S30)]).bind fun t235 => (some (t235, 0))) else (some (([] : List ByteArray), 1)))
theorem impl_BoardPicture.mono : ∀ a0 a1 a2 k, LeO (impl_BoardPicture.f k a0 a1 a2) (impl_BoardPicture.f (k + 1) a0 a1 a2) := by
  intro a0 a1 a2 k
  unfold impl_BoardPicture.f
  repeat' first
      | (with_reducible exact impl_Board_picture__impl_Board_kindSign.mono _ _ _)
      | (with_reducible exact impl_ValidBoard.mono _ _ _ _)
      | (with_reducible exact LeO.refl _)
      | (with_reducible exact LeO.none _)
      | (with_reducible refine LeO.ite ?_ ?_)
      | (with_reducible refine LeO.bind ?_ (fun _ => ?_))
      | exact impl_Board_picture__impl_Board_kindSign.mono _ _ _
      | exact impl_ValidBoard.mono _ _ _ _
      | exact LeO.none _
      | refine LeO.ite ?_ ?_
      | refine LeO.bind ?_ (fun _ => ?_)
set_option maxHeartbeats 8000000 in
set_option maxRecDepth 100000 in
theorem impl_BoardPicture.calls (k : Nat) (a0_0 : Int) (a0_1 : Int) (A0_2 : Option Addr) (c0_2 : Nat) (l0_2 : List (S62)) (r1 : List ByteArray) (r2 : Int) (w : World) (hr0_2 : Kd.C k62 w A0_2 l0_2.length l0_2) (hc0_2 : l0_2.length ≤ c0_2) (h : impl_BoardPicture.f k a0_0 a0_1 l0_2 = some (r1, r2)) :
    Calls Try.prog 15 #[.agg #[.int .i8 a0_0, .int .i8 a0_1, .slice A0_2 l0_2.length c0_2]] w fun e w' => ∃ v0_ : Value, e = .returned (.tuple #[v0_, .int .i64 r2]) ∧ Kd.R Kd.string 9 w' w.heap.size (fun _ => True) v0_ r1 ∧ Below w.heap.size w w' := by
  have hu30 := Try.underlying30
  have HR0_2 := Aside0.mk hr0_2
  have HC0_2 := Aside0.mk hc0_2
  clear hr0_2 hc0_2
  have HB := Aside0.mk (Below.refl w.heap.size w)
  have H : ((impl_ValidBoard.f k a0_0 a0_1 l0_2).bind fun t234 => (if t234 = true then ((impl_Board_picture__impl_Board_kindSign.f k [(⟨a0_0, a0_1, l0_2⟩ : S30)] [(⟨a0_0, a0_1, l0_2⟩ : S30)]).bind fun t235 => (some (t235, 0))) else (some (([] : List ByteArray), 1)))) = some (r1, r2) := h
  clear h
  replace H := Option.bind_eq_some_iff.mp H
  obtain ⟨t234, A20, H⟩ := H
  replace H : (if t234 = true then ((impl_Board_picture__impl_Board_kindSign.f k [(⟨a0_0, a0_1, l0_2⟩ : S30)] [(⟨a0_0, a0_1, l0_2⟩ : S30)]).bind fun t235 => (some (t235, 0))) else (some (([] : List ByteArray), 1))) = some (r1, r2) := H
  have A2 := Aside0.mk A20
  clear A20
  by_cases c3 : t234 = true
  · subst c3
    have H1 : ((impl_Board_picture__impl_Board_kindSign.f k [(⟨a0_0, a0_1, l0_2⟩ : S30)] [(⟨a0_0, a0_1, l0_2⟩ : S30)]).bind fun t235 => (some (t235, 0))) = some (r1, r2) := by rw [if_pos rfl] at H; exact H
    clear H
    have H := H1
    clear H1
    replace H := Option.bind_eq_some_iff.mp H
    obtain ⟨t235, A40, H⟩ := H
    replace H : (some (t235, 0)) = some (r1, r2) := H
    have A4 := Aside0.mk A40
    clear A40
    simp only [Option.some.injEq, Prod.mk.injEq] at H
    obtain ⟨rfl, rfl⟩ := H
    go_enter Try.func15, Try.ntmps15
    go_wp2_with (first | ((with_reducible refine gate_dst (N := 1) rfl ?_); refine box_event ?hg (N := 1) ?hd (cs := #[.int .i8 a0_0, .int .i8 a0_1, .slice A0_2 l0_2.length c0_2]) (t := 30) ?hr ?_; (case hd => rfl); (case hg => rfl); (case hr => first | (go_simp; done) | (go_simp; rfl)); intro gb233 hg w5 hbox hb; have n0_ := Aside0.mk (below_step (by repeat (first | (with_reducible first | exact HB.out | apply below_alloc | apply pw_below_drewN | apply below_drew1) | exact HB.out)) hb); have n1_ := Aside0.mk (hbox); have n2_ := Aside0.mk ((by rw [hg]; exact (below_size (by repeat (first | (with_reducible first | exact HB.out | apply below_alloc | apply pw_below_drewN | apply below_drew1) | exact HB.out))) : w.heap.size ≤ gb233)); have n3_ := Aside0.mk ((by rw [hg]; exact (below_size (by repeat (first | (with_reducible first | exact HB.out | apply below_alloc | apply pw_below_drewN | apply below_drew1) | exact HB.out))) : w.heap.size ≤ gb233)); clear HB; have HB := n0_; have BK233 := n1_; have GW233 := n2_; have GE233 := n3_; clear n0_ n1_ n2_ n3_; clear hb hbox hg; have hcz6_0 : w5.cell? ⟨gb233, 0, none⟩ = some (.int .i8 a0_0) := (blk_cell BK233.out 0).trans rfl; have hcz6_1 : w5.cell? ⟨gb233, 1, none⟩ = some (.int .i8 a0_1) := (blk_cell BK233.out 1).trans rfl; have hcz6_2 : w5.cell? ⟨gb233, 2, none⟩ = some (.slice A0_2 l0_2.length c0_2) := (blk_cell BK233.out 2).trans rfl; have hfz6_0 := blk_frozen BK233.out 0; have hfz6_1 := blk_frozen BK233.out 1; have hfz6_2 := blk_frozen BK233.out 2) | ((with_reducible refine gate_callee (f := 29) rfl ?_); refine goesL_ (some 5) rfl rfl Try.func29 (by kernel_rfl) rfl #[.agg #[.int .i8 a0_0, .int .i8 a0_1, .slice A0_2 l0_2.length c0_2]] rfl (by (try simp only [List.map_toArray, List.map_cons, List.map_nil]); first | done | rfl | (simp only [List.length_drop, List.length_take]; rfl)) ?_; (with_reducible refine (impl_ValidBoard.calls k a0_0 a0_1 _ _ l0_2 true _ ?side1 ?side2 A2.out).mono ?_); (case side1 => repeat (first | exact (Kd.C_below HR0_2.out HB.out) | (with_reducible refine Kd.C_alloc ?_ _) | (with_reducible refine Kd.C_drewN ?_ _) | (with_reducible refine Kd.C_drew ?_))); (case side2 => exact HC0_2.out); rintro e w7 ⟨rfl, hb⟩; refine ⟨_, rfl, ?_⟩; have n0_ := Aside0.mk (blk_below (g := gb233) (o := .cells #[.int .i8 a0_0, .int .i8 a0_1, .slice A0_2 l0_2.length c0_2] 30 (0, 0)) (by (with_reducible repeat (first | refine blk_drewN ?_ _ | refine blk_drew ?_ | refine blk_alloc ?_ _)); exact BK233.out) hb); have n1_ := Aside0.mk (below_step (by repeat (first | (with_reducible first | exact HB.out | apply below_alloc | apply pw_below_drewN | apply below_drew1 | refine below_set ?_ GE233.out) | exact HB.out)) hb); clear BK233; clear HB; have BK233 := n0_; have HB := n1_; clear n0_ n1_; (try clear hb); (try clear hb2); (try clear hk); (try clear hi)) | ((with_reducible refine gate_callee (f := 35) rfl ?_); refine goesL_ (some 8) rfl rfl Try.func35 (by kernel_rfl) rfl #[.pointer (some ⟨gb233, 0, none⟩), .func (.func 36) #[.pointer (some ⟨gb233, 0, none⟩)] #[]] rfl (by (try simp only [List.map_toArray, List.map_cons, List.map_nil]); first | done | rfl | (simp only [List.length_drop, List.length_take]; rfl)) ?_; (with_reducible refine (impl_Board_picture__impl_Board_kindSign.calls k _ [(⟨a0_0, a0_1, l0_2⟩ : S30)] _ [(⟨a0_0, a0_1, l0_2⟩ : S30)] t235 _ ?side1 ?side2 A4.out).mono ?_); (case side1 => refine ro_of_blk (T := 30) (cs := #[.int .i8 a0_0, .int .i8 a0_1, .slice A0_2 l0_2.length c0_2]) (by (with_reducible repeat (first | refine blk_drewN ?_ _ | refine blk_drew ?_ | refine blk_alloc ?_ _)); exact BK233.out) ?_; exact k30_mk _ (⟨a0_0, a0_1, l0_2⟩ : S30) (by exact HC0_2.out) (by repeat (first | exact (Kd.C_below HR0_2.out HB.out) | (with_reducible refine Kd.C_alloc ?_ _) | (with_reducible refine Kd.C_drewN ?_ _) | (with_reducible refine Kd.C_drew ?_)))); (case side2 => refine ro_of_blk (T := 30) (cs := #[.int .i8 a0_0, .int .i8 a0_1, .slice A0_2 l0_2.length c0_2]) (by (with_reducible repeat (first | refine blk_drewN ?_ _ | refine blk_drew ?_ | refine blk_alloc ?_ _)); exact BK233.out) ?_; exact k30_mk _ (⟨a0_0, a0_1, l0_2⟩ : S30) (by exact HC0_2.out) (by repeat (first | exact (Kd.C_below HR0_2.out HB.out) | (with_reducible refine Kd.C_alloc ?_ _) | (with_reducible refine Kd.C_drewN ?_ _) | (with_reducible refine Kd.C_drew ?_)))); rintro e w8 ⟨v236, rfl, ho0, hb⟩; refine ⟨_, rfl, ?_⟩; have n0_ := Aside0.mk (Kd.R_lower ho0 (below_size (by repeat (first | (with_reducible first | exact HB.out | apply below_alloc | apply pw_below_drewN | apply below_drew1 | refine below_set ?_ GE233.out) | exact HB.out)))); have n1_ := Aside0.mk (blk_below (g := gb233) (o := .cells #[.int .i8 a0_0, .int .i8 a0_1, .slice A0_2 l0_2.length c0_2] 30 (0, 0)) (by (with_reducible repeat (first | refine blk_drewN ?_ _ | refine blk_drew ?_ | refine blk_alloc ?_ _)); exact BK233.out) hb); have n2_ := Aside0.mk (below_step (by repeat (first | (with_reducible first | exact HB.out | apply below_alloc | apply pw_below_drewN | apply below_drew1 | refine below_set ?_ GE233.out) | exact HB.out)) hb); clear BK233; clear HB; have HO237 := n0_; have BK233 := n1_; have HB := n2_; clear n0_ n1_ n2_; (try clear hb); (try clear hb2); (try clear hk); (try clear hi); (try clear ho0)))
    go_ret2
    exact ⟨_, by first | rfl | (simp [errW_none, errW_some] <;> rfl) | (simp [*, errW_none, errW_some] <;> rfl), by (with_reducible repeat (first | apply Kd.R_alloc | apply Kd.R_drewN | apply Kd.R_drew)); exact HO237.out, by repeat (first | (with_reducible first | exact HB.out | apply below_alloc | apply pw_below_drewN | apply below_drew1 | refine below_set ?_ GE233.out) | exact HB.out)⟩
  · replace c3 := Bool.eq_false_iff.mpr c3
    subst c3
    have H1 : (some (([] : List ByteArray), 1)) = some (r1, r2) := by rw [if_neg (show ¬ (false = true) by decide)] at H; exact H
    clear H
    have H := H1
    clear H1
    simp only [Option.some.injEq, Prod.mk.injEq] at H
    obtain ⟨rfl, rfl⟩ := H
    go_enter Try.func15, Try.ntmps15
    go_wp2_with (first | ((with_reducible refine gate_dst (N := 1) rfl ?_); refine box_event ?hg (N := 1) ?hd (cs := #[.int .i8 a0_0, .int .i8 a0_1, .slice A0_2 l0_2.length c0_2]) (t := 30) ?hr ?_; (case hd => rfl); (case hg => rfl); (case hr => first | (go_simp; done) | (go_simp; rfl)); intro gb233 hg w9 hbox hb; have n0_ := Aside0.mk (below_step (by repeat (first | (with_reducible first | exact HB.out | apply below_alloc | apply pw_below_drewN | apply below_drew1) | exact HB.out)) hb); have n1_ := Aside0.mk (hbox); have n2_ := Aside0.mk ((by rw [hg]; exact (below_size (by repeat (first | (with_reducible first | exact HB.out | apply below_alloc | apply pw_below_drewN | apply below_drew1) | exact HB.out))) : w.heap.size ≤ gb233)); have n3_ := Aside0.mk ((by rw [hg]; exact (below_size (by repeat (first | (with_reducible first | exact HB.out | apply below_alloc | apply pw_below_drewN | apply below_drew1) | exact HB.out))) : w.heap.size ≤ gb233)); clear HB; have HB := n0_; have BK233 := n1_; have GW233 := n2_; have GE233 := n3_; clear n0_ n1_ n2_ n3_; clear hb hbox hg; have hcz10_0 : w9.cell? ⟨gb233, 0, none⟩ = some (.int .i8 a0_0) := (blk_cell BK233.out 0).trans rfl; have hcz10_1 : w9.cell? ⟨gb233, 1, none⟩ = some (.int .i8 a0_1) := (blk_cell BK233.out 1).trans rfl; have hcz10_2 : w9.cell? ⟨gb233, 2, none⟩ = some (.slice A0_2 l0_2.length c0_2) := (blk_cell BK233.out 2).trans rfl; have hfz10_0 := blk_frozen BK233.out 0; have hfz10_1 := blk_frozen BK233.out 1; have hfz10_2 := blk_frozen BK233.out 2) | ((with_reducible refine gate_callee (f := 29) rfl ?_); refine goesL_ (some 5) rfl rfl Try.func29 (by kernel_rfl) rfl #[.agg #[.int .i8 a0_0, .int .i8 a0_1, .slice A0_2 l0_2.length c0_2]] rfl (by (try simp only [List.map_toArray, List.map_cons, List.map_nil]); first | done | rfl | (simp only [List.length_drop, List.length_take]; rfl)) ?_; (with_reducible refine (impl_ValidBoard.calls k a0_0 a0_1 _ _ l0_2 false _ ?side1 ?side2 A2.out).mono ?_); (case side1 => repeat (first | exact (Kd.C_below HR0_2.out HB.out) | (with_reducible refine Kd.C_alloc ?_ _) | (with_reducible refine Kd.C_drewN ?_ _) | (with_reducible refine Kd.C_drew ?_))); (case side2 => exact HC0_2.out); rintro e w11 ⟨rfl, hb⟩; refine ⟨_, rfl, ?_⟩; have n0_ := Aside0.mk (blk_below (g := gb233) (o := .cells #[.int .i8 a0_0, .int .i8 a0_1, .slice A0_2 l0_2.length c0_2] 30 (0, 0)) (by (with_reducible repeat (first | refine blk_drewN ?_ _ | refine blk_drew ?_ | refine blk_alloc ?_ _)); exact BK233.out) hb); have n1_ := Aside0.mk (below_step (by repeat (first | (with_reducible first | exact HB.out | apply below_alloc | apply pw_below_drewN | apply below_drew1 | refine below_set ?_ GE233.out) | exact HB.out)) hb); clear BK233; clear HB; have BK233 := n0_; have HB := n1_; clear n0_ n1_; (try clear hb); (try clear hb2); (try clear hk); (try clear hi)))
    go_ret2
    exact ⟨_, by first | rfl | (simp [errW_none, errW_some] <;> rfl) | (simp [*, errW_none, errW_some] <;> rfl), by first | exact Kd.R_nil _ _ _ _ _ | exact Kd.N_nil _ _ _ _ _ | exact Kd.V_nil _ _ _ _ _ | exact Kd.Q_nil _ _ _ _ _ | exact Kd.S_nil _ _ _ _ _, by repeat (first | (with_reducible first | exact HB.out | apply below_alloc | apply pw_below_drewN | apply below_drew1 | refine below_set ?_ GE233.out) | exact HB.out)⟩

end Go.Proofs.Ytdjhcnepndflmaa.PFnExactBoardPicture
