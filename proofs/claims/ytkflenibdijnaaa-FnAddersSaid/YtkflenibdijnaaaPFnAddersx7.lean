-- WRITTEN by xprint.py, a program of this session's. Not trusted: Lean checks it.
-- packed by pack.py
import Derived.Test.YtkflenibdijnaaaPFnAddersx0
import Derived.Test.YtkflenibdijnaaaPFnAddersx5
import Derived.Test.YtkflenibdijnaaaTFnAddersa
import Derived.RangeFuncNested
import Derived.RangeFuncLeaves
import Derived.OrdersIn
import Derived.Shelf.Abstract
import Derived.OwnWalkIn
import Derived.TacticsInMore
import Derived.LoopNIn
import Derived.LoopIn
namespace Go.Proofs.Ytkflenibdijnaaa.PFnAdders
open Go.RowKit Go.Proofs.YtkflenibdijnaaaW.PrintWords Go.Proofs.YtkflenibdijnaaaW.PrintLast Go.Proofs.YtkflenibdijnaaaW.PrintMore Go.Proofs.YtkflenibdijnaaaX
attribute [local go_sem] max2_int min2_int max_two min_two max_three min_three max_four min_four   -- for this text's walks alone
set_option maxHeartbeats 8000000
set_option maxRecDepth 100000
set_option linter.unusedVariables false
set_option linter.unusedSimpArgs false

mutual
def impl_Network_trimmed.l0 : Nat → List (S29) → List Int → Int → Int → List Bool → Option (Int × (List (S61)) × List Int)
  | 0, _, _, _, _, _ => none
  | k + 1, x0, x21, x22, x23, x221000 => if x23 < x22 then (if 0 ≤ x23 then (if x23 < (x21.length : Int) then (if 0 ≤ (rd x21 x23) then (if (rd x21 x23) < (x221000.length : Int) then (impl_Network_trimmed.l0 k x0 x21 x22 (wrap64 (x23 + 1)) (x221000.set ((rd x21 x23) : Int).toNat true)) else (none)) else (none)) else (none)) else (none)) else (if 0 < (x0.length : Int) then (impl_Network_trimmed.l1 k x0 ((rd_T29 x0 0).f1) (wrap64 ((((rd_T29 x0 0).f1).length : Int) - 1)) x221000) else (none))
def impl_Network_trimmed.l1 : Nat → List (S29) → List (S61) → Int → List Bool → Option (Int × (List (S61)) × List Int)
  | 0, _, _, _, _ => none
  | k + 1, x0, x34, x36, x221000 => if x36 ≥ 0 then (if 0 ≤ x36 then (if x36 < (x34.length : Int) then (if x36 < (x221000.length : Int) then (if rdOf false x221000 x36 = true then ((impl_Node_inner.f ((rd_T61 x34 x36).f0) ((rd_T61 x34 x36).f1) ((rd_T61 x34 x36).f2)).bind fun t228 => (if t228 = true then (if 0 ≤ ((rd_T61 x34 x36).f1) then (if ((rd_T61 x34 x36).f1) < (x221000.length : Int) then (if 0 ≤ ((rd_T61 x34 x36).f2) then (if ((rd_T61 x34 x36).f2) < (x221000.length : Int) then (impl_Network_trimmed.l1 k x0 x34 (wrap64 (x36 - 1)) ((x221000.set (((rd_T61 x34 x36).f1) : Int).toNat true).set (((rd_T61 x34 x36).f2) : Int).toNat true)) else (none)) else (none)) else (none)) else (none)) else (impl_Network_trimmed.l1 k x0 x34 (wrap64 (x36 - 1)) x221000))) else (impl_Network_trimmed.l1 k x0 x34 (wrap64 (x36 - 1)) x221000)) else (none)) else (none)) else (none)) else (if 0 < (x0.length : Int) then (if 0 ≤ (((rd_T29 x0 0).f1).length : Int) then (if ((((rd_T29 x0 0).f1).length : Int) : Int).toNat ≤ 140737488355328 then (impl_Network_trimmed.l2 k x0 (List.replicate ((((rd_T29 x0 0).f1).length : Int) : Int).toNat 0) ((rd_T29 x0 0).f1) (((rd_T29 x0 0).f1).length : Int) 0 x221000 ((rd_T29 x0 0).f0) ([] : List (S61))) else (none)) else (none)) else (none))
def impl_Network_trimmed.l2 : Nat → List (S29) → List Int → List (S61) → Int → Int → List Bool → Int → List (S61) → Option (Int × (List (S61)) × List Int)
  | 0, _, _, _, _, _, _, _, _ => none
  | k + 1, x0, x9, x68, x69, x70, x221000, x238000, x238001 => if x70 < x69 then (if 0 ≤ x70 then (if x70 < (x68.length : Int) then (if x70 < (x221000.length : Int) then (if rdOf false x221000 x70 = true then (if x70 < (x9.length : Int) then ((some (x9.set (x70 : Int).toNat (IntKind.i16.wrap ((x238001.length : Int))) : List Int)).bind fun y242 => ((impl_Node_renamed.f ((rd_T61 x68 x70).f0) ((rd_T61 x68 x70).f1) ((rd_T61 x68 x70).f2) y242).bind fun bt243 => (if x238001.length < 23456248059221 then (impl_Network_trimmed.l2 k x0 y242 x68 x69 (wrap64 (x70 + 1)) x221000 x238000 (x238001 ++ [(⟨bt243.1, bt243.2.1, bt243.2.2⟩ : S61)])) else (none)))) else (none)) else (impl_Network_trimmed.l2 k x0 x9 x68 x69 (wrap64 (x70 + 1)) x221000 x238000 x238001)) else (none)) else (none)) else (none)) else (if 0 < (x0.length : Int) then ((impl_renamedAll.f k ((rd_T29 x0 0).f2) x9).bind fun t250 => (some (x238000, x238001, t250))) else (none))
end
def okNs (L : List S61) : Bool := L.all fun y => !(y.f0 == 2 || y.f0 == 3) || (decide (0 ≤ y.f1 ∧ y.f1 < (L.length : Int)) && decide (0 ≤ y.f2 ∧ y.f2 < (L.length : Int)))
def impl_Network_trimmed.f (k : Nat) (l0 : List (S29)) : Option (Int × (List (S61)) × List Int) := if okNs ((rd_T29 l0 0).f1) = true then (if 0 < (l0.length : Int) then (if 0 ≤ (((rd_T29 l0 0).f1).length : Int) then (if ((((rd_T29 l0 0).f1).length : Int) : Int).toNat ≤ 281474976710656 then (impl_Network_trimmed.l0 k l0 ((rd_T29 l0 0).f2) (((rd_T29 l0 0).f2).length : Int) 0 (List.replicate ((((rd_T29 l0 0).f1).length : Int) : Int).toNat false)) else (none)) else (none)) else (none)) else (none)
theorem impl_Network_trimmed.mono_l : ∀ k, (∀ y0 y1 y2 y3 y4, LeO (impl_Network_trimmed.l0 k y0 y1 y2 y3 y4) (impl_Network_trimmed.l0 (k + 1) y0 y1 y2 y3 y4)) ∧ (∀ y0 y1 y2 y3, LeO (impl_Network_trimmed.l1 k y0 y1 y2 y3) (impl_Network_trimmed.l1 (k + 1) y0 y1 y2 y3)) ∧ (∀ y0 y1 y2 y3 y4 y5 y6 y7, LeO (impl_Network_trimmed.l2 k y0 y1 y2 y3 y4 y5 y6 y7) (impl_Network_trimmed.l2 (k + 1) y0 y1 y2 y3 y4 y5 y6 y7))
  | 0 => ⟨fun _ _ _ _ _ r h => by simp [impl_Network_trimmed.l0] at h, fun _ _ _ _ r h => by simp [impl_Network_trimmed.l1] at h, fun _ _ _ _ _ _ _ _ r h => by simp [impl_Network_trimmed.l2] at h⟩
  | k + 1 => by
    obtain ⟨ih0, ih1, ih2⟩ := impl_Network_trimmed.mono_l k
    refine ⟨?_, ?_, ?_⟩
    · intro y0 y1 y2 y3 y4
      unfold impl_Network_trimmed.l0
      repeat' first | (with_reducible first | apply ih0 | apply ih1 | apply ih2 | apply impl_renamedAll.mono | exact LeO.refl _ | exact LeO.none _ | refine LeO.ite ?_ ?_ | refine LeO.bind ?_ (fun _ => ?_)) | apply ih0 | apply ih1 | apply ih2 | apply impl_renamedAll.mono | exact LeO.none _ | refine LeO.ite ?_ ?_ | refine LeO.bind ?_ (fun _ => ?_)
    · intro y0 y1 y2 y3
      unfold impl_Network_trimmed.l1
      repeat' first | (with_reducible first | apply ih0 | apply ih1 | apply ih2 | apply impl_renamedAll.mono | exact LeO.refl _ | exact LeO.none _ | refine LeO.ite ?_ ?_ | refine LeO.bind ?_ (fun _ => ?_)) | apply ih0 | apply ih1 | apply ih2 | apply impl_renamedAll.mono | exact LeO.none _ | refine LeO.ite ?_ ?_ | refine LeO.bind ?_ (fun _ => ?_)
    · intro y0 y1 y2 y3 y4 y5 y6 y7
      unfold impl_Network_trimmed.l2
      repeat' first | (with_reducible first | apply ih0 | apply ih1 | apply ih2 | apply impl_renamedAll.mono | exact LeO.refl _ | exact LeO.none _ | refine LeO.ite ?_ ?_ | refine LeO.bind ?_ (fun _ => ?_)) | apply ih0 | apply ih1 | apply ih2 | apply impl_renamedAll.mono | exact LeO.none _ | refine LeO.ite ?_ ?_ | refine LeO.bind ?_ (fun _ => ?_)
theorem impl_Network_trimmed.mono : ∀ a0 k, LeO (impl_Network_trimmed.f k a0) (impl_Network_trimmed.f (k + 1) a0) := by
 intro a0 k
 obtain ⟨ih0, ih1, ih2⟩ := impl_Network_trimmed.mono_l k
 unfold impl_Network_trimmed.f
 repeat' first | (with_reducible first | apply ih0 | apply ih1 | apply ih2 | apply impl_renamedAll.mono | exact LeO.refl _ | exact LeO.none _ | refine LeO.ite ?_ ?_ | refine LeO.bind ?_ (fun _ => ?_)) | apply ih0 | apply ih1 | apply ih2 | apply impl_renamedAll.mono | exact LeO.none _ | refine LeO.ite ?_ ?_ | refine LeO.bind ?_ (fun _ => ?_)
def impl_Network_trimmed.T12 : Bool × List (List Nat × List Nat) := (true, [([], []), ([0], [0]), ([1], [1]), ([2], [2]), ([3], [3]), ([], []), ([5], [5]), ([6], [6]), ([7], [7]), ([8], [8]), ([9, 9], [9]), ([], []), ([11, 4, 0, 1, 2, 3, 4, 11], [4, 11]), ([10, 12, 0, 1, 2, 3, 4, 5, 6, 7, 8, 9, 10, 11, 12], [10])])
def impl_Network_trimmed.B12 : List Nat := [0, 1, 3, 7, 15, 0, 32, 96, 224, 480, 992, 0, 2079, 8191]
theorem impl_Network_trimmed.tab12 : rtab .any (opsOf Try.f43 12) = impl_Network_trimmed.T12 := by kernel_rfl
theorem impl_Network_trimmed.bits12 : waitsOk impl_Network_trimmed.T12.2 impl_Network_trimmed.B12 = true := by kernel_rfl
def impl_Network_trimmed.T18 : Bool × List (List Nat × List Nat) := (true, [([], []), ([0], [0]), ([], []), ([], []), ([2, 3], [2, 3]), ([4], [4]), ([1, 5, 4], [1, 5]), ([0, 1, 2, 3, 4, 5, 6], []), ([7, 6, 6, 0, 1, 2, 3, 4, 5, 6], [6, 7])])
def impl_Network_trimmed.B18 : List Nat := [0, 1, 0, 0, 12, 28, 63, 127, 255]
theorem impl_Network_trimmed.tab18 : rtab .any (opsOf Try.f43 18) = impl_Network_trimmed.T18 := by kernel_rfl
theorem impl_Network_trimmed.bits18 : waitsOk impl_Network_trimmed.T18.2 impl_Network_trimmed.B18 = true := by kernel_rfl
open Go.Shelf
section
variable {P : Program} {ops : Array Oper} {Q : Exit → Act → World → Prop} {n l : Nat}
def noDefer (o : Oper) : Bool := match o.op with | .defer _ => false | _ => true
theorem noDefer_ne {o : Oper} (h : noDefer o = true) : ∀ c, o.op ≠ .defer c := fun c e => by simp [noDefer, e] at h
theorem rows_wide {row : String} {args : Array Value} {w : World} {R : Value → World → Prop} (h : Rows P row args w R) : RowsIn (Fence.wide.inRound l) n P row args w R :=
  fun c cs _ => let ⟨v, w', r, s⟩ := h c cs; ⟨v, w', r, stepsIn_wide.2 s⟩
theorem oper_in {o : Oper} (hnd : noDefer o = true) {a : Act} {w : World} {K : Act → World → Prop} (h : o.wp P a w K Q) : o.wpIn (Fence.wide.inRound l) n P a w K Q := by
  unfold Oper.wp at h
  unfold Oper.wpIn
  refine ⟨fun _ _ => trivial, ?_⟩
  rw [show o.semAt (Fence.wide.inRound l).round a.eval = execOp a.eval o from Oper.semAt_some l _ _ (noDefer_ne hnd)]
  generalize (execOp a.eval o).run P w = r at *
  cases r with
  | ok x w' =>
    cases x with
    | value v => exact h
    | skip => exact h
    | defer d => exact h
    | enter f args => exact ⟨(fun hh => by cases hh), callsIn_wide.2 h⟩
    | row r args => exact ⟨(fun hh => by cases hh), rows_wide h⟩
    | _ => exact h.elim
  | halt x w' => cases x <;> exact h
theorem list_in (hQ : ¬ LetsOut Q) : ∀ (os : List Oper), os.all noDefer = true → ∀ (a : Act) (w : World), wpList P ops Q os a w → wpListIn (Fence.wide.inRound l) n P ops Q os a w
  | [], _, _, _, h => h
  | o :: rest, hnd, a, w, h => by
    simp only [List.all_cons, Bool.and_eq_true] at hnd
    unfold wpList at h
    unfold wpListIn
    split at h
    · rename_i hw
      rw [if_pos hw]
      rcases h with h | h
      · exact Oper.wpIn_mono (fun a w => list_in hQ rest hnd.2 a w) (oper_in hnd.1 h)
      · exact absurd h.2 hQ
    · rename_i hw
      rw [if_neg hw]
      exact ⟨fun _ _ => trivial, list_in hQ rest hnd.2 _ _ h⟩
theorem region_in {id : Nat} {os : List Oper} {a : Act} {w : World} (hQ : ¬ LetsOut Q) (h : wpList P os.toArray Q os a w) (hnd : os.all noDefer = true := by rfl) : (Code.region id os.toArray false).wpIn (Fence.wide.inRound l) n P Q a w :=
  wpIn_region_lit (list_in hQ os hnd a w h)
theorem any_in {md : Region.Mode} (hQ : ¬ LetsOut Q) (hnd : ops.all noDefer = true) : ∀ (fuel : Nat) (li : Array Bool) (a : Act) (w : World), wpAny P md ops Q fuel li a w → wpAnyIn (Fence.wide.inRound l) n P md ops Q fuel li a w
  | 0, _, _, _, h => h
  | fuel + 1, li, a, w, h => by
    refine ⟨h.1, fun i hi => ?_⟩
    have h2 := h.2 i hi
    unfold wpOp at h2
    unfold wpOpIn
    cases ho : ops[i]? with
    | none => rw [ho] at h2; exact any_in hQ hnd fuel _ _ _ h2
    | some o =>
      rw [ho] at h2
      have hd : noDefer o = true := by
        obtain ⟨hlt, rfl⟩ := Array.getElem?_eq_some_iff.1 ho
        exact (Array.all_eq_true.1 hnd) i hlt
      dsimp only at h2 ⊢
      split at h2
      · rename_i hw
        rw [if_pos hw]
        rcases h2 with h2 | h2
        · exact Oper.wpIn_mono (fun a w => any_in hQ hnd fuel _ a w) (oper_in hd h2)
        · exact absurd h2.2 hQ
      · rename_i hw
        rw [if_neg hw]
        exact ⟨fun _ _ => trivial, any_in hQ hnd fuel _ _ _ h2⟩
theorem startIn_ {S : World → Prop} {ds : List Nat} {id m : Nat} {a : Act} {w : World} (li : Array Bool) (hQ : ¬ LetsOut Q) (hnd : ops.all noDefer = true) (hm : P.follows .mixedOrders = true) (hn : ops.size = m) (hl : Array.replicate m false = li) (hS : S w.drew)
    (h : S w.drew → wpAnyLast P .any ops Q S ds m li a w.drew) : (Code.region id ops true).wpIn (Fence.wide.inRound l) n P Q a w := by
  subst hn
  subst hl
  exact wpIn_region_any hm (any_in hQ hnd _ _ _ _ (wpAny_of_last _ _ _ _ (h hS)))
end
/-! The range over slices.Backward. -/
theorem back_calls (A : Option Addr) (n c : Nat) (w : World) : Calls Try.prog 54 #[.slice A n c] w fun e w' => e = .returned (.func (.func 60) #[] #[.pointer (some ⟨w.heap.size, 0, none⟩)]) ∧ w' = w.alloc (.cells #[.slice A n c] 26) := by
  go_enter Try.func54, Try.ntmps54
  go_wp2
  go_ret
  exact ⟨rfl, rfl⟩
/-- A node and its place. -/
abbrev NX (L : List S61) := { x : Int × S61 // ∃ i : Nat, i < L.length ∧ x = ((i : Int), rd_T61 L (i : Int)) }
def encN (x : Int × S61) : Array Value := #[.int .i64 x.1, .agg #[.int .i8 x.2.f0, .int .i16 x.2.f1, .int .i16 x.2.f2]]
/-- The first k of the nodes, from the last on. -/
def nsB (L : List S61) (k : Nat) : List (Int × S61) := (List.range k).map fun j => (((L.length - 1 - j : Nat) : Int), rd_T61 L ((L.length - 1 - j : Nat) : Int))
theorem nsB_len (L : List S61) (k : Nat) : (nsB L k).length = k := by simp [nsB]
theorem nsB_succ (L : List S61) (k : Nat) : nsB L (k + 1) = nsB L k ++ [(((L.length - 1 - k : Nat) : Int), rd_T61 L ((L.length - 1 - k : Nat) : Int))] := by simp [nsB, List.range_succ]
def KpB (n₀ Bs : Nat) (W W' : World) : Prop := Below n₀ W W' ∧ ∀ v : Value, W.heap[Bs]? = some (.cells #[v] 26 (0, 0)) → W'.heap[Bs]? = some (.cells #[v] 26 (0, 0))
theorem KpB.trans {n₀ Bs : Nat} {A B C : World} (h : KpB n₀ Bs A B) (k : KpB n₀ Bs B C) : KpB n₀ Bs A C := ⟨h.1.trans k.1, fun v hv => k.2 v (h.2 v hv)⟩
theorem KpB.refl (n₀ Bs : Nat) (W : World) : KpB n₀ Bs W W := ⟨Below.refl _ _, fun _ h => h⟩
theorem KpB.putObj {n₀ Bs : Nat} {w : World} (hn : n₀ ≤ w.heap.size) (W : World) (l : Nat) (o o' : Obj) (hl : w.heap.size ≤ l) (h : W.heap[l]? = some o) (ho : o.isCells = false) (hw : o.isWalk = false) : KpB n₀ Bs W (W.putObj l o') :=
  ⟨belowK_b hn W l o o' hl h ho hw, fun v hv => by
    refine (World.putObj_heap_other ?_).trans hv
    rintro rfl
    rw [hv] at h
    cases h
    cases ho⟩
section
attribute [local go_sem] Oper.semAt_some
set_option maxRecDepth 100000 in
set_option maxHeartbeats 4000000 in
theorem back_in (n : Nat) (hn : 1 ≤ n) (l Bs : Nat) (w0 : World) (A : Option Addr) (c : Nat) (L : List S61) (hlen : L.length ≤ 281474976710656) (hN : Kd.C k61 w0 A L.length L) (J Jx : List (NX L) → World → Prop)
    (hY : ∀ pre x W, J pre W → pre.length < L.length → YieldAt Fence.wide (n - 1) Try.prog l (encN x.1) W fun e W' =>
      (e = .returned (.bool true) ∧ J (pre ++ [x]) W' ∧ KpB w0.heap.size Bs W W') ∨ (e = .returned (.bool false) ∧ Jx (pre ++ [x]) W'))
    (W : World) (hW : Below w0.heap.size w0 W) (hBs : W.heap[Bs]? = some (.cells #[.slice A L.length c] 26 (0, 0))) (h0 : J [] W) :
    CallsIn Fence.wide n Try.prog 60 #[.func (.yield l) #[] #[], .pointer (some ⟨Bs, 0, none⟩)] W fun e W' => (∃ v, e = .returned v) ∧
      ((∃ ys : List (NX L), ys.map (·.1) = nsB L L.length ∧ J ys W') ∨ (∃ pre : List (NX L), True ∧ Jx pre W')) := by
  have hcB := (blk_cell hBs 0).trans rfl
  have hu26 := Try.underlying26
  refine callsIn_of_wp Try.func60 rfl trivial ?_ rfl
  simp only [Try.ntmps60, List.size_toArray, List.length_cons, List.length_nil, Nat.reduceAdd, Nat.reduceSub, Array.replicate_succ, Array.replicate_zero, List.push_toArray, List.append_toArray, List.nil_append, List.cons_append]
  gi_wp2
  gi_loopw [3] (fun i wr => ∃ (k : Nat) (pre : List (NX L)), k ≤ L.length ∧ i = .int .i64 ((L.length : Int) - 1 - (k : Int)) ∧ pre.map (·.1) = nsB L k ∧ J pre wr ∧ KpB w0.heap.size Bs W wr)
    (fun i _ => (intOf i + 1).toNat)
  case atStart => exact ⟨0, [], Nat.zero_le _, by congr 1; first | omega | (unfold wrap64; omega), rfl, h0, KpB.refl _ _ _⟩
  case round =>
    obtain ⟨k, pre, hk, rfl, hpre, hJs, hKp⟩ := hrel
    have hcW := (blk_cell (hKp.2 _ hBs) 0).trans rfl
    have hplen : pre.length = k := by rw [← List.length_map (f := (·.1)), hpre, nsB_len]
    by_cases hlt : k < L.length
    · have hge : (0 : Int) ≤ (L.length : Int) - 1 - (k : Int) := by omega
      have hlt2 : (L.length : Int) - 1 - (k : Int) < (L.length : Int) := by omega
      have hcast : (((L.length - 1 - k : Nat) : Nat) : Int) = (L.length : Int) - 1 - (k : Int) := by omega
      obtain ⟨ad, eA, hx0, hx1, hx2⟩ := at_T61 (Kd.C_below hN (hW.trans hKp.1)) ((L.length : Int) - 1 - (k : Int)) hge hlt2
      subst eA
      rw [show ((L.length : Int) - 1 - (k : Int)).toNat = L.length - 1 - k by omega] at hx0 hx1 hx2
      obtain ⟨fn, tmps, assign, body, hy, hR⟩ := hY pre ⟨((L.length : Int) - 1 - (k : Int), rd_T61 L ((L.length : Int) - 1 - (k : Int))), L.length - 1 - k, by omega, by rw [hcast]⟩ wr hJs (by omega)
      dsimp only [encN] at hy
      clear hY
      gi_wp2
      refine hR.mono ?_
      rintro e W3 (⟨rfl, hJ3, hk3⟩ | ⟨rfl, hJx3⟩)
      · gi_wp2
        go_roundw
        case rel =>
          refine ⟨k + 1, _, by omega, ?_, ?_, hJ3, hKp.trans hk3⟩
          · congr 1; first | omega | (simp only [wrap64]; omega) | (rw [IntWalk.wrap64_in _ (by omega)]; omega)
          · rw [List.map_append, hpre, nsB_succ]
            simp only [List.map_cons, List.map_nil, hcast]
        case measure => simp [intOf]; omega
      · gi_wp2
        refine bodyPost_ret (results_none rfl _ _ _) rfl ?_
        exact ⟨⟨_, rfl⟩, .inr ⟨_, trivial, hJx3⟩⟩
    · obtain rfl : k = L.length := by omega
      have hge : ¬ ((0 : Int) ≤ (L.length : Int) - 1 - (L.length : Int)) := by omega
      gi_wp2
      go_end0
      exact ⟨⟨_, rfl⟩, .inl ⟨pre, hpre, hJs⟩⟩
end

theorem back_stops (n : Nat) (hn : 1 ≤ n) (Bs : Nat) (w0 w : World) (A : Option Addr) (c : Nat) (L : List S61) (hlen : L.length ≤ 281474976710656) (hN : Kd.C k61 w0 A L.length L) (hw : Below w0.heap.size w0 w) (hBs : w.heap[Bs]? = some (.cells #[.slice A L.length c] 26 (0, 0))) :
    SeqStopsK Fence.wide n Try.prog 60 #[.pointer (some ⟨Bs, 0, none⟩)] (fun x : NX L => encN x.1) (KpB w0.heap.size Bs) (fun ys => ys.map (·.1) = nsB L L.length) (fun _ => True) L.length w := fun l J Jx W hW _ _ hY h0 =>
  back_in n hn l Bs w0 A c L hlen hN J Jx hY W (hw.trans (hW.mono hw.size)) (blk_below hBs hW) h0
/-- A row of one's own abides the turn of a block that is no cells. -/
theorem R_turn {α : Type} {d : Kd α} {e base : Nat} {ok : Nat → Prop} {W W' : World} {v : Value} {xs : List α} {row : Option Nat} (h : d.R e W base ok v xs) (hg : W.grownBy W' row) (hr : ∀ r, row = some r → ∃ o : Obj, W.heap[r]? = some o ∧ o.isCells = false) : d.R e W' base ok v xs :=
  Kd.R_mono (Kd.R_grown (Kd.R_bound h) hg (fun k hk he => by
    obtain ⟨_, _, _, q, _, cells, hc⟩ := hk
    obtain ⟨o, ho, hn⟩ := hr k he.symm
    rw [hc] at ho
    cases ho
    cases hn)) (fun k hk => hk.1)
theorem blk_turn {W W' : World} {g t : Nat} {cs : Array Value} {row : Option Nat} (h : W.heap[g]? = some (.cells cs t (0, 0))) (hg : W.grownBy W' row) (hr : ∀ r, row = some r → ∃ o : Obj, W.heap[r]? = some o ∧ o.isCells = false) : W'.heap[g]? = some (.cells cs t (0, 0)) :=
  blk_grown h hg (fun he => by
    obtain ⟨o, ho, hn⟩ := hr g he.symm
    rw [h] at ho
    cases ho
    cases hn)
theorem R_put_D {α : Type} {d : Kd α} {e base : Nat} {ok : Nat → Prop} {W : World} {D : Nat} {ds : Option (List Deferred)} {o' : Obj} {v : Value} {xs : List α} (h : d.R e W base ok v xs) (hD : W.heap[D]? = some (.deferred ds)) : d.R e (W.putObj D o') base ok v xs :=
  Kd.R_mono (Kd.R_move (Kd.R_bound h) (fun k hk => by
    obtain ⟨_, _, _, q, _, cells, hc⟩ := hk
    refine World.putObj_heap_other ?_
    rintro rfl
    rw [hc] at hD
    cases hD)) (fun k hk => hk.1)
theorem R_neD {α : Type} {d : Kd α} {e base : Nat} {ok : Nat → Prop} {W : World} {g : Nat} {ds : Option (List Deferred)} {v : Value} {xs : List α} (h : d.R e W base ok v xs) (hD : W.heap[g]? = some (.deferred ds)) : some g ≠ v.ownBlock := by
  intro he
  obtain ⟨cells, hc⟩ := Kd.R_typed h g he.symm
  rw [hc] at hD
  cases hD
theorem far_ {W : World} {g b j : Nat} {o : Obj} (h : W.heap[g]? = some o) (hne : g ≠ b) (v : Value) : (W.setCell ⟨b, j, none⟩ v).heap[g]? = some o := (Below.heap_setCell W ⟨b, j, none⟩ v g hne).trans h
/-- The return of a function that holds a range over a function: the block of the rounds' deferred calls is taken. -/
theorem leaves_ {n : Nat} {fn : Func} {R : Ending → World → Prop} {a : Act} {W : World} (D : Nat) (hd : a.defers = [{ target := .collected D, args := #[] }]) (hD : W.heap[D]? = some (.deferred (some [])))
    (h : ∀ W' : World, (∀ (g : Nat) (o : Obj), g ≠ D → W.heap[g]? = some o → W'.heap[g]? = some o) → (∀ {α : Type} (d : Kd α) (e base : Nat) (ok : Nat → Prop) (v : Value) (xs : List α), d.R e W base ok v xs → d.R e W' base ok v xs) →
      (∀ w0 : World, w0.heap.size ≤ D → Below w0.heap.size w0 W → Below w0.heap.size w0 W') → ∃ v, (results fn a.tmps).run Try.prog W' = .ok v W' ∧ R (.returned v) W') : bodyPostM Fence.wide n Try.prog fn R .ret a W := by
  show LeavesInM Fence.wide n Try.prog fn a.tmps R a.defers .returning W
  rw [hd]
  refine ⟨by simp, .inl ⟨_, _, rfl, run_takeDeferred hD, ?_⟩⟩
  exact h _ (fun g o hg ho => (World.putObj_heap_other hg).trans ho) (fun d e base ok v xs hR => R_put_D hR hD) (fun w0 hw hB => hB.trans (belowK_b (w := w0) (Nat.le_refl _) W D _ _ hw hD rfl rfl))
theorem keeps_below {B : Nat} {W W' : World} (h : Below W.heap.size W W') : KeepsFrom B W W' := ⟨h.size, fun k o _ h0 _ => blk_below h0 h⟩
/-- A post that lets no panic out. -/
def calm (Q : Exit → Act → World → Prop) : Exit → Act → World → Prop
  | .panic _, _, _ => False
  | e, a, w => Q e a w
theorem calm_ {c : Code} {Q : Exit → Act → World → Prop} {a : Act} {w : World} (h : c.wp Try.prog (calm Q) a w) : c.wp Try.prog Q a w :=
  Go.wp_mono h (fun e a w h => by cases e <;> first | exact h.elim | exact h)
theorem wrapA_ {c : Code} {Q : Exit → Act → World → Prop} {a : Act} {W : World} (h : ∀ a0 : Act, a0 = a → c.wp Try.prog Q a0 W) : c.wp Try.prog Q a W := h _ rfl
/-- What the printed loop says of one place: what it does to the row. -/
def turnU (L : List S61) (xs : List Bool) (i : Nat) : List Bool := if rdOf false xs (i : Int) = true then (if (rd_T61 L (i : Int)).f0 = 2 ∨ (rd_T61 L (i : Int)).f0 = 3 then (xs.set ((rd_T61 L (i : Int)).f1).toNat true).set ((rd_T61 L (i : Int)).f2).toNat true else xs) else xs
theorem turnU_len (L : List S61) (xs : List Bool) (i : Nat) : (turnU L xs i).length = xs.length := by unfold turnU; split <;> (try split) <;> simp
theorem l1_len {k : Nat} {l0 : List S29} {L : List S61} {xs : List Bool} {r : Int × List S61 × List Int} (h : impl_Network_trimmed.l1 k l0 L ((L.length : Int) - 1) xs = some r) : L.length ≤ xs.length := by
  cases k with
  | zero => simp [impl_Network_trimmed.l1] at h
  | succ k =>
    rw [impl_Network_trimmed.l1] at h
    by_cases h0 : (L.length : Int) - 1 ≥ 0
    · rw [if_pos h0, if_pos (by omega), if_pos (by omega)] at h
      by_cases h1 : (L.length : Int) - 1 < (xs.length : Int)
      · omega
      · rw [if_neg h1] at h; cases h
    · omega
theorem inner_some (a b c : Int) : impl_Node_inner.f a b c = some (decide (a = 2 ∨ a = 3)) := by
  unfold impl_Node_inner.f
  by_cases h : a = 2
  · simp [h]
  · by_cases h3 : a = 3
    · simp [h3]
    · simp [h, h3]
theorem l1_step {k : Nat} {l0 : List S29} {L : List S61} {xs : List Bool} {r : Int × List S61 × List Int} {i : Nat} (hlen : L.length ≤ 281474976710656) (hi : i < L.length) (h : impl_Network_trimmed.l1 k l0 L (i : Int) xs = some r) :
    ∃ k', k' < k ∧ impl_Network_trimmed.l1 k' l0 L ((i : Int) - 1) (turnU L xs i) = some r := by
  cases k with
  | zero => simp [impl_Network_trimmed.l1] at h
  | succ k =>
    have wi : wrap64 ((i : Int) - 1) = (i : Int) - 1 := IntWalk.wrap64_in _ (by omega)
    refine ⟨k, Nat.lt_succ_self _, ?_⟩
    rw [impl_Network_trimmed.l1, if_pos (by omega), if_pos (by omega), if_pos (by omega), wi] at h
    unfold turnU
    by_cases h1 : (i : Int) < (xs.length : Int)
    · rw [if_pos h1] at h
      by_cases h2 : rdOf false xs (i : Int) = true
      · rw [if_pos h2, inner_some, Option.bind_some] at h
        rw [if_pos h2]
        by_cases h3 : (rd_T61 L (i : Int)).f0 = 2 ∨ (rd_T61 L (i : Int)).f0 = 3
        · rw [if_pos (by simpa using h3)] at h
          rw [if_pos h3]
          split at h
          · split at h
            · split at h
              · split at h
                · exact h
                · cases h
              · cases h
            · cases h
          · cases h
        · rw [if_neg (by simpa using h3)] at h
          rw [if_neg h3]
          exact h
      · rw [if_neg h2] at h
        rw [if_neg h2]
        exact h
    · rw [if_neg h1] at h
      cases h

theorem ne_types {W : World} {a b t u : Nat} {cs ds : Array Value} (h : W.heap[a]? = some (.cells cs t (0, 0))) (k : W.heap[b]? = some (.cells ds u (0, 0))) (htu : t ≠ u) : a ≠ b := by
  rintro rfl
  rw [h] at k
  cases k
  exact htu rfl
theorem next_ {k1 : Nat} {l0 : List S29} {L : List S61} {xs : List Bool} {r : Int × List S61 × List Int} {pre : List (NX L)} {i : Nat} (hlen : L.length ≤ 281474976710656) (hi : i < L.length) (hlt : pre.length < L.length) (x : NX L) (hx : x.1 = ((i : Int), rd_T61 L (i : Int)))
    (hp : pre.map (·.1) = nsB L pre.length → ∃ kq, kq ≤ k1 ∧ impl_Network_trimmed.l1 kq l0 L ((L.length : Int) - 1 - (pre.length : Int)) xs = some r) :
    (pre ++ [x]).map (·.1) = nsB L (pre ++ [x]).length → ∃ kq, kq ≤ k1 ∧ impl_Network_trimmed.l1 kq l0 L ((L.length : Int) - 1 - ((pre ++ [x]).length : Int)) (turnU L xs i) = some r := by
  intro h
  rw [List.map_append, List.length_append, List.length_singleton, nsB_succ] at h
  obtain ⟨h1, h2⟩ := List.append_inj h (by rw [List.length_map, nsB_len])
  obtain ⟨kq, hk, hl⟩ := hp h1
  simp only [List.map_cons, List.map_nil, hx, List.cons.injEq, and_true, Prod.mk.injEq] at h2
  have e : (L.length : Int) - 1 - (pre.length : Int) = (i : Int) := by have := h2.1; omega
  rw [e] at hl
  obtain ⟨k', hk', hl'⟩ := l1_step hlen hi hl
  refine ⟨k', by omega, ?_⟩
  rw [List.length_append, List.length_singleton, show (L.length : Int) - 1 - ((pre.length + 1 : Nat) : Int) = (i : Int) - 1 by omega]
  exact hl'
theorem okNs_at {L : List S61} (h : okNs L = true) {i : Nat} (hi : i < L.length) (hk : (rd_T61 L (i : Int)).f0 = 2 ∨ (rd_T61 L (i : Int)).f0 = 3) : (0 ≤ (rd_T61 L (i : Int)).f1 ∧ (rd_T61 L (i : Int)).f1 < (L.length : Int)) ∧ (0 ≤ (rd_T61 L (i : Int)).f2 ∧ (rd_T61 L (i : Int)).f2 < (L.length : Int)) := by
  have hm : rd_T61 L (i : Int) ∈ L := by
    have e : rd_T61 L (i : Int) = L[i] := by
      unfold rd_T61
      rw [Int.toNat_natCast, List.getD_eq_getElem?_getD, List.getElem?_eq_getElem hi]
      rfl
    rw [e]
    exact List.getElem_mem hi
  have h1 := (List.all_eq_true.1 h) _ hm
  simp only [Bool.or_eq_true, Bool.and_eq_true, Bool.not_eq_true', Bool.or_eq_false_iff, beq_eq_false_iff_ne, decide_eq_true_eq] at h1
  rcases h1 with ⟨a, b⟩ | h1
  · rcases hk with hk | hk
    · exact absurd hk a
    · exact absurd hk b
  · exact h1

theorem st_ {W : World} {base go n c : Nat} {xs : List Bool} (HO : Kd.R Kd.bool 4 W base (fun _ => True) (.slice (some ⟨go, 0, none⟩) n c) xs) (j : Int) (hgo : base ≤ go) :
    Kd.R Kd.bool 4 (W.setCell ⟨go, j.toNat, none⟩ (.bool true)) base (fun _ => True) (.slice (some ⟨go, 0, none⟩) n c) (xs.set j.toNat true) ∧
      (∀ (g t : Nat) (cs : Array Value), 4 ≠ t → W.heap[g]? = some (.cells cs t (0, 0)) → (W.setCell ⟨go, j.toNat, none⟩ (.bool true)).heap[g]? = some (.cells cs t (0, 0))) ∧
      Below base W (W.setCell ⟨go, j.toNat, none⟩ (.bool true)) :=
  ⟨(Kd.R_putg HO j true).1, fun g t cs ht hg => (Below.heap_setCell W ⟨go, j.toNat, none⟩ (.bool true) g (fun e => Kd.R_ne HO hg ht (congrArg some e))).trans hg, (Below.refl base W).setCell (p := ⟨go, j.toNat, none⟩) hgo _⟩
def impl_Network_trimmed.T11 : Bool × List (List Nat × List Nat) := (true, [([], []), ([], []), ([1], [1]), ([], []), ([], []), ([4], [4]), ([0, 2, 0, 1, 2], [0, 2]), ([6, 0, 1, 2], [6]), ([3, 5, 0, 1, 2, 3, 4, 5, 6, 7], [3, 5]), ([8, 7, 0, 1, 2, 3, 4, 5, 6, 7], [8])])
def impl_Network_trimmed.B11 : List Nat := [0, 0, 2, 0, 0, 16, 7, 71, 255, 511]
theorem impl_Network_trimmed.tab11 : rtab .any (opsOf Try.f43 11) = impl_Network_trimmed.T11 := by kernel_rfl
theorem impl_Network_trimmed.bits11 : waitsOk impl_Network_trimmed.T11.2 impl_Network_trimmed.B11 = true := by kernel_rfl
set_option maxHeartbeats 16000000 in
set_option maxRecDepth 100000 in
theorem impl_Network_trimmed.calls (k : Nat) (adp0 : Addr) (l0 : List (S29)) (r1 : Int) (r2 : List (S61)) (r3 : List Int) (w : World) (hr0 : Kd.C k29 w (some adp0) l0.length l0) (h : impl_Network_trimmed.f k l0 = some (r1, r2, r3)) :
    Calls Try.prog 43 #[.pointer (some adp0)] w fun e w' => ∃ v1_ v2_ : Value, e = .returned (.agg #[.int .i8 r1, v1_, v2_]) ∧ Kd.R k61 61 w' w.heap.size (fun _ => True) v1_ r2 ∧ Kd.R (Kd.int .i16) 54 w' w.heap.size (fun _ => True) v2_ r3 ∧ Below w.heap.size w w' := by
 have hu29 := Try.underlying29
 have hu89 := Try.underlying89
 have hu61 := Try.underlying61
 have HR0 := Aside0.mk hr0
 clear hr0
 have HB := Aside0.mk (Below.refl w.heap.size w)
 by_cases hk_ : okNs ((rd_T29 l0 0).f1) = true
 rotate_left
 ·exact absurd h (by unfold impl_Network_trimmed.f; rw [if_neg hk_]; simp)
 have HOK := Aside0.mk hk_
 have H : (if 0 < (l0.length : Int) then (if 0 ≤ (((rd_T29 l0 0).f1).length : Int) then (if ((((rd_T29 l0 0).f1).length : Int) : Int).toNat ≤ 281474976710656 then (impl_Network_trimmed.l0 k l0 ((rd_T29 l0 0).f2) (((rd_T29 l0 0).f2).length : Int) 0 (List.replicate ((((rd_T29 l0 0).f1).length : Int) : Int).toNat false)) else (none)) else (none)) else (none)) = some (r1, r2, r3) := by unfold impl_Network_trimmed.f at h; rwa [if_pos hk_] at h
 clear hk_
 clear h
 by_cases c2 : 0 < (l0.length : Int)
 rotate_left
 ·rw [if_neg c2] at H
  exact absurd H (by simp)
 rw [if_pos c2] at H
 have c2b0 : decide (0 < (l0.length : Int)) = true := decide_eq_true c2
 have c2b1 : decide (0 < l0.length) = true := decide_eq_true (by omega)
 clear c2
 by_cases c3 : 0 ≤ (((rd_T29 l0 0).f1).length : Int)
 rotate_left
 ·rw [if_neg c3] at H
  exact absurd H (by simp)
 rw [if_pos c3] at H
 have c3b0 := eq_true c3
 have c3b1 : decide (0 ≤ (((rd_T29 l0 0).f1).length : Int)) = true := decide_eq_true c3
 clear c3
 by_cases c4 : ((((rd_T29 l0 0).f1).length : Int) : Int).toNat ≤ 281474976710656
 rotate_left
 ·rw [if_neg c4] at H
  exact absurd H (by simp)
 rw [if_pos c4] at H
 have HNL : Aside0 (((rd_T29 l0 0).f1).length ≤ 281474976710656) := ⟨by omega⟩
 have c4b0 := eq_true c4
 have c4b1 : decide (((((rd_T29 l0 0).f1).length : Int) : Int).toNat ≤ 281474976710656) = true := decide_eq_true c4
 clear c4
 obtain ⟨y217, hy217⟩ : ∃ y_ : List Bool, y_ = (List.replicate ((((rd_T29 l0 0).f1).length : Int) : Int).toNat false) := ⟨_, rfl⟩
 replace H : (impl_Network_trimmed.l0 k l0 ((rd_T29 l0 0).f2) (((rd_T29 l0 0).f2).length : Int) 0 y217) = some (r1, r2, r3) := by first | (rw [hy217]; with_reducible exact H) | (have H2_ := (Option.bind_some _ _).symm.trans H; rw [hy217]; with_reducible exact H2_) | (have H2_ := (Option.bind_some _ _).symm.trans H; with_reducible exact H2_) | with_reducible exact H | (rw [hy217]; exact H) | exact H
 have Ny217 := Aside0.mk hy217
 clear hy217
 have H' := Aside0.mk H
 clear H
 refine callsIn_wide.1 (callsIn_of_wp_marks (n := 9) Try.func43 rfl trivial ?_ rfl)
 refine wpIn_wide.2 (calm_ ?_)
 simp only [Try.ntmps43, List.size_toArray, List.length_cons, List.length_nil, Nat.reduceAdd, Nat.reduceSub, Array.replicate_succ, Array.replicate_zero, List.push_toArray, List.append_toArray, List.nil_append, List.cons_append]
 go_wp2_with (first | ((with_reducible refine gate_dst (N := 2) rfl ?_); refine zbx 2 #[.int .i8 0, .slice none 0 0, .slice none 0 0] 29 ?_; intro gb215 hg w5 hbox hb; have n_ : _ ∧ _ ∧ _ ∧ _ := ⟨zb HB hb, Aside0.mk (hbox), zg HB hg, zg HB hg⟩; clear HB; obtain ⟨HB, BK215, GW215, GE215⟩ := n_; clear hb hbox hg; have p216 : 0 ≤ (0 : Int) := (by omega); have q216 : 0 < (l0.length : Int) := of_decide_eq_true zA; obtain ⟨ad216, A216_1, c216_1, A216_2, c216_2, e216, hx216_0, hx216_1, hx216_2, hl216_1, hi216_1, hl216_2, hi216_2⟩ := at_T29 HR0.out 0 p216 q216; obtain rfl : adp0 = ad216 := (by injection e216); have qi216 : (0 < l0.length) = True := eq_true (by omega); (try simp only [z00, Nat.zero_mul, Addr.add_zero'] at hx216_0 hx216_1 hx216_2); replace hx216_0 := zc HB hx216_0; replace hx216_1 := zc HB hx216_1; replace hx216_2 := zc HB hx216_2; have HR216_1 := Aside0.mk hi216_1; have HC216_1 := Aside0.mk hl216_1; clear hi216_1 hl216_1; have HR216_2 := Aside0.mk hi216_2; have HC216_2 := Aside0.mk hl216_2; clear hi216_2 hl216_2; replace p216 := eq_true p216; replace q216 := eq_true q216) | ((with_reducible refine gate_dst (N := 17) rfl ?_); refine Kd.R_make Kd.bool _ 4 rfl (N := 17) rfl 89 _ _ rfl (((rd_T29 l0 0).f1).length : Int) rfl rfl Try.underlying89 (.bool false) 1 info4 rfl (by decide) (by omega) false (ok := fun _ => True) (okp := fun _ => True) rfl (fun _ hk => hk) trivial (of_decide_eq_true zA) (Nat.le_trans (Nat.mul_le_mul_right _ (of_decide_eq_true zA : (((rd_T29 l0 0).f1).length : Int).toNat ≤ 281474976710656)) (by omega)) (Below.refl _ _) (Nat.le_refl _) ?_; intro v218 w6 ho7 hb hg_ hnew_; clear hg_ hnew_; (first | rw [← Ny217.out] at ho7 | (simp only [Int.reduceToNat] at ho7; rw [← Ny217.out] at ho7)); have n_ : _ ∧ _ ∧ _ := ⟨Aside0.mk (Kd.R_lower ho7 (zz HB)), zk BK215 hb, zbs hb⟩; clear BK215 HB; obtain ⟨HO219, BK215, HB⟩ := n_; clear hb ho7) | ((with_reducible refine gate_dst (N := 3) rfl ?_); refine zbx 3 #[.slice none 0 0] 89 ?_; intro gb220 hg w8 hbox hb; have n_ : _ ∧ _ ∧ _ ∧ _ ∧ _ ∧ _ ∧ _ ∧ _ := ⟨zr HO219 hb, zk BK215 hb, zbs hb, Aside0.mk (hbox), zg HB hg, zg HB hg, zn1 BK215 hg, zn2 BK215 hg⟩; clear HO219 BK215 HB; obtain ⟨HO219, BK215, HB, BK220, GW220, GE220, NB215_220, NB220_215⟩ := n_; clear hb hbox hg; obtain ⟨Ao9, co9, eo9⟩ := Kd.R_slice HO219.out; subst eo9; have hnb10 := NB220_215.out; have hnc10 := NB215_220.out; obtain ⟨z11_0, y11_0⟩ := zB1 BK220; have p221 : 0 ≤ (0 : Int) := (by omega); have q221 : 0 < (l0.length : Int) := of_decide_eq_true zA; obtain ⟨ad221, A221_1, c221_1, A221_2, c221_2, e221, hx221_0, hx221_1, hx221_2, hl221_1, hi221_1, hl221_2, hi221_2⟩ := at_T29 HR0.out 0 p221 q221; obtain rfl : adp0 = ad221 := (by injection e221); have qi221 : (0 < l0.length) = True := eq_true (by omega); (try simp only [z00, Nat.zero_mul, Addr.add_zero'] at hx221_0 hx221_1 hx221_2); have hn221_0 : adp0.block ≠ gb220 := Nat.ne_of_lt (Nat.lt_of_lt_of_le (by have := World.block_lt_of_cell? _ _ hx221_0; first | rwa [add_block] at this | exact this) GW220.out); replace hx221_0 := zc HB hx221_0; replace hx221_1 := zc HB hx221_1; replace hx221_2 := zc HB hx221_2; have HR221_1 := Aside0.mk hi221_1; have HC221_1 := Aside0.mk hl221_1; clear hi221_1 hl221_1; have HR221_2 := Aside0.mk hi221_2; have HC221_2 := Aside0.mk hl221_2; clear hi221_2 hl221_2; replace hx221_0 := (cell_far (p := ⟨gb220, 0, none⟩) (by first | (rw [add_block]; exact hn221_0) | (show (Addr.add _ _).block ≠ _; rw [add_block]; exact hn221_0) | exact hn221_0) (.slice Ao9 y217.length co9)).trans hx221_0; replace hx221_1 := (cell_far (p := ⟨gb220, 0, none⟩) (by first | (rw [add_block]; exact hn221_0) | (show (Addr.add _ _).block ≠ _; rw [add_block]; exact hn221_0) | exact hn221_0) (.slice Ao9 y217.length co9)).trans hx221_1; replace hx221_2 := (cell_far (p := ⟨gb220, 0, none⟩) (by first | (rw [add_block]; exact hn221_0) | (show (Addr.add _ _).block ≠ _; rw [add_block]; exact hn221_0) | exact hn221_0) (.slice Ao9 y217.length co9)).trans hx221_2; clear hn221_0; replace p221 := eq_true p221; replace q221 := eq_true q221))
 go_loopg [23] k (fun kq v23 w' => ∃ (x23_1 : Int) (x221000_1 : List Bool) (u221000 : Value), v23 = .int .i64 x23_1 ∧ Aside0 (impl_Network_trimmed.l0 kq l0 ((rd_T29 l0 0).f2) (((rd_T29 l0 0).f2).length : Int) x23_1 x221000_1 = some (r1, r2, r3)) ∧ Aside0 (kq ≤ k) ∧ Aside0 (Kd.R Kd.bool 4 w' w.heap.size (fun _ => True) u221000 x221000_1) ∧ Aside0 (w'.heap[gb215]? = some (.cells #[.int .i8 0, (.slice none 0 0), (.slice none 0 0)] 29 (0, 0))) ∧ Aside0 (w'.heap[gb220]? = some (.cells #[u221000] 89 (0, 0))) ∧ Aside0 (Below w.heap.size w w'))
 case atStart => exact ⟨(0), (y217), (.slice Ao9 y217.length co9), zi, H', ⟨Nat.le_refl _⟩, ⟨Kd.R_mono (zs HO219 BK220).out (fun _ hk => trivial)⟩, zf BK215 NB215_220, ⟨zp BK220⟩, zba⟩
 clear H'
 try clear c1
 try clear c2
 try clear c2b0
 try clear c2b1
 try clear p2
 try clear q2
 try clear hx2
 try clear qi2
 try clear c3
 try clear c3b0
 try clear c3b1
 try clear c4
 try clear c4b0
 try clear c4b1
 try clear c10
 try clear z11_0 y11_0
 try clear hx216_0
 try clear hx216_1
 try clear hx216_2
 try clear hx221_0
 try clear hx221_1
 try clear hx221_2
 try clear p216
 try clear p221
 try clear q216
 try clear q221
 obtain ⟨x23_1, x221000_1, u221000, rfl, HA, HK1, HO_221000, BK215, BK220, HB⟩ := hrel
 cases gk with
 | zero => exact absurd HA.out (by simp [impl_Network_trimmed.l0])
 | succ k1 => ?_
 have H := HA.out
 clear HA
 simp only [impl_Network_trimmed.l0] at H
 by_cases c12 : x23_1 < (((rd_T29 l0 0).f2).length : Int)
 ·rw [if_pos c12] at H
  have c12b0 : decide (x23_1 < (((rd_T29 l0 0).f2).length : Int)) = true := decide_eq_true c12
  clear c12
  by_cases c13 : 0 ≤ x23_1
  rotate_left
  ·rw [if_neg c13] at H
   exact absurd H (by simp)
  rw [if_pos c13] at H
  have c13b0 : decide (0 ≤ x23_1) = true := decide_eq_true c13
  clear c13
  by_cases c14 : x23_1 < (((rd_T29 l0 0).f2).length : Int)
  rotate_left
  ·rw [if_neg c14] at H
   exact absurd H (by simp)
  rw [if_pos c14] at H
  have c14b0 : decide (x23_1 < (((rd_T29 l0 0).f2).length : Int)) = true := decide_eq_true c14
  clear c14
  by_cases c15 : 0 ≤ (rd ((rd_T29 l0 0).f2) x23_1)
  rotate_left
  ·rw [if_neg c15] at H
   exact absurd H (by simp)
  rw [if_pos c15] at H
  have c15b0 : decide (0 ≤ (rd ((rd_T29 l0 0).f2) x23_1)) = true := decide_eq_true c15
  clear c15
  by_cases c16 : (rd ((rd_T29 l0 0).f2) x23_1) < (x221000_1.length : Int)
  rotate_left
  ·rw [if_neg c16] at H
   exact absurd H (by simp)
  rw [if_pos c16] at H
  have c16b0 : decide ((rd ((rd_T29 l0 0).f2) x23_1) < (x221000_1.length : Int)) = true := decide_eq_true c16
  clear c16
  obtain ⟨y223, hy223⟩ : ∃ y_ : List Bool, y_ = (x221000_1.set ((rd ((rd_T29 l0 0).f2) x23_1) : Int).toNat true) := ⟨_, rfl⟩
  replace H : (impl_Network_trimmed.l0 k1 l0 ((rd_T29 l0 0).f2) (((rd_T29 l0 0).f2).length : Int) (wrap64 (x23_1 + 1)) y223) = some (r1, r2, r3) := by first | (rw [hy223]; with_reducible exact H) | (have H2_ := (Option.bind_some _ _).symm.trans H; rw [hy223]; with_reducible exact H2_) | (have H2_ := (Option.bind_some _ _).symm.trans H; with_reducible exact H2_) | with_reducible exact H | (rw [hy223]; exact H) | exact H
  have Ny223 := Aside0.mk hy223
  clear hy223
  have H' := Aside0.mk H
  clear H
  have p222 : 0 ≤ (x23_1 : Int) := of_decide_eq_true zA
  have q222 : x23_1 < (((rd_T29 l0 0).f2).length : Int) := of_decide_eq_true zA
  obtain ⟨ad222, e222, hx222_0⟩ := Kd.at_int HR221_2.out x23_1 p222 q222
  cases e222
  replace hx222_0 := zc HB hx222_0
  replace p222 := eq_true p222
  replace q222 := eq_true q222
  have hnb18 := NB220_215.out
  have hnc18 := NB215_220.out
  obtain ⟨z19_0, y19_0⟩ := zB1 BK220
  have p17 : 0 ≤ ((rd ((rd_T29 l0 0).f2) x23_1) : Int) := of_decide_eq_true zA
  have q17 : ((rd ((rd_T29 l0 0).f2) x23_1) : Int) < ((x221000_1.length : Int) : Int) := of_decide_eq_true zA
  obtain ⟨go17, co17, eo17, gb17, gl17, cl17, HG17⟩ := Kd.R_form HO_221000.out (by omega)
  (first | cases eo17 | (injection eo17 with ea_ en_ ec_; (first | subst ea_ | (injection ea_ with ea_; subst ea_)); subst ec_; clear en_))
  have GB17 := Aside0.mk gb17
  have GG17 := Aside0.mk HG17
  clear gb17 gl17 HG17
  obtain ⟨hx17_0, hf17_0⟩ := Kd.R_celln false HO_221000.out ((rd ((rd_T29 l0 0).f2) x23_1) : Int) p17 q17
  replace p17 := eq_true p17
  replace q17 := eq_true q17
  have HP20 := Kd.R_putg HO_221000.out ((rd ((rd_T29 l0 0).f2) x23_1) : Int) true
  go_wp2_with (first | ((with_reducible refine gate_store (t := 4) (p := 29) rfl ?_); refine store_event (t := 4) (p := 29) (v := ?vo_w21) (w1 := (wr.setCell ⟨go17, ((rd ((rd_T29 l0 0).f2) x23_1) : Int).toNat, none⟩ (.bool true))) ?hg ?ho ?hn ?hr ?_; (case ho => rfl); (case hg => rfl); (case hn => rfl); (case hr => exact zgs); intro w21 hw; have hg : wr.grownBy w21 (some go17) := (by rw [hw]; exact HP20.2); have hp_ : Kd.R Kd.bool 4 w21 w.heap.size (fun _ => True) (.slice (some ⟨go17, 0, none⟩) x221000_1.length co17) y223 := (by rw [hw, Ny223.out]; exact HP20.1); clear HP20; have n_ : _ ∧ _ ∧ _ ∧ _ := ⟨Aside0.mk (hp_), Aside0.mk (blk_grown (g := gb215) (o := .cells #[.int .i8 0, .slice none 0 0, .slice none 0 0] 29 (0, 0)) (zh BK215).out hg (Kd.R_ne HO_221000.out BK215.out (by decide))), Aside0.mk (blk_grown (g := gb220) (o := .cells #[.slice (some ⟨go17, 0, none⟩) x221000_1.length co17] 89 (0, 0)) (zh BK220).out hg (Kd.R_ne HO_221000.out BK220.out (by decide))), Aside0.mk ((by rw [hw]; exact below_set (HB.out) GB17.out : Below w.heap.size w w21))⟩; clear HO_221000 BK215 BK220 HB; obtain ⟨HO_221000, BK215, BK220, HB⟩ := n_; clear hg hw hp_))
  go_roundg k1
  case measure => have := HK1.out; omega
  case rel => exact ⟨(wrap64 (x23_1 + 1)), (y223), (.slice (some ⟨go17, 0, none⟩) x221000_1.length co17), zi, H', ⟨by have := HK1.out; omega⟩, ze HO_221000, zh BK215, zh BK220, zba⟩
 rw [if_neg c12] at H
 have c12b0 : decide (x23_1 < (((rd_T29 l0 0).f2).length : Int)) = false := decide_eq_false c12
 clear c12
 by_cases c22 : 0 < (l0.length : Int)
 rotate_left
 ·rw [if_neg c22] at H
  exact absurd H (by simp)
 rw [if_pos c22] at H
 have c22b0 : decide (0 < (l0.length : Int)) = true := decide_eq_true c22
 have c22b1 : decide (0 < l0.length) = true := decide_eq_true (by omega)
 clear c22
 have H' := Aside0.mk H
 clear H
 have p224 : 0 ≤ (0 : Int) := (by omega)
 have q224 : 0 < (l0.length : Int) := of_decide_eq_true zA
 obtain ⟨ad224, A224_1, c224_1, A224_2, c224_2, e224, hx224_0, hx224_1, hx224_2, hl224_1, hi224_1, hl224_2, hi224_2⟩ := at_T29 HR0.out 0 p224 q224
 obtain rfl : adp0 = ad224 := (by injection e224)
 have qi224 : (0 < l0.length) = True := eq_true (by omega)
 try simp only [z00, Nat.zero_mul, Addr.add_zero'] at hx224_0 hx224_1 hx224_2
 replace hx224_0 := zc HB hx224_0
 replace hx224_1 := zc HB hx224_1
 replace hx224_2 := zc HB hx224_2
 have HR224_1 := Aside0.mk hi224_1
 have HC224_1 := Aside0.mk hl224_1
 clear hi224_1 hl224_1
 have HR224_2 := Aside0.mk hi224_2
 have HC224_2 := Aside0.mk hl224_2
 clear hi224_2 hl224_2
 replace p224 := eq_true p224
 replace q224 := eq_true q224
 go_wp2_with (go_at_call 54; refine (back_calls _ _ _ _).mono ?_; rintro e w' ⟨rfl, rfl⟩)
 obtain ⟨Wb, hWb⟩ : ∃ W_ : World, W_ = wr.alloc (.cells #[.slice A224_1 ((rd_T29 l0 0).f1).length c224_1] 26) := ⟨_, rfl⟩
 rw [← hWb]
 have HOb : Aside0 (Kd.R Kd.bool 4 Wb w.heap.size (fun _ => True) u221000 x221000_1) := by rw [hWb]; exact ze HO_221000
 have B1b : Aside0 (Wb.heap[gb215]? = some (.cells #[.int .i8 0, .slice none 0 0, .slice none 0 0] 29 (0, 0))) := by rw [hWb]; exact zh BK215
 have B2b : Aside0 (Wb.heap[gb220]? = some (.cells #[u221000] 89 (0, 0))) := by rw [hWb]; exact zh BK220
 have BNb : Aside0 (Wb.heap[wr.heap.size]? = some (.cells #[.slice A224_1 ((rd_T29 l0 0).f1).length c224_1] 26 (0, 0))) := ⟨by rw [hWb]; exact heap_alloc_new _ _⟩
 have HBb : Aside0 (Below w.heap.size w Wb) := by rw [hWb]; exact zl HB
 obtain ⟨bs, hbs⟩ : ∃ b_ : Nat, b_ = wr.heap.size := ⟨_, rfl⟩
 have hsw : w.heap.size ≤ bs := by rw [hbs]; exact HB.out.size
 rw [← hbs] at BNb ⊢
 have hsz : bs < Wb.heap.size := blk_lt BNb.out
 have HL1 : impl_Network_trimmed.l1 k1 l0 ((rd_T29 l0 0).f1) ((((rd_T29 l0 0).f1).length : Int) - 1) x221000_1 = some (r1, r2, r3) := by have h_ := H'.out; rwa [IntWalk.wrap64_in _ (by have := HNL.out; omega)] at h_
 have hxl0 := l1_len HL1
 have hOK := HOK.out
 have hNL := HNL.out
 have HRb := HR224_1.out
 have GE1 := GE215.out
 have GE2 := GE220.out
 clear HO_221000 BK215 BK220 HB hWb H' hbs
 obtain ⟨L, hL⟩ : ∃ L_, L_ = (rd_T29 l0 0).f1 := ⟨_, rfl⟩
 rw [← hL] at BNb HL1 hxl0 hOK hNL HRb
 have HLq := Aside0.mk hL
 clear hL
 refine wrapA_ (fun a0 ha0 => ?_)
 refine (wpIn_wide (n := 9)).1 ?_
 refine wpIn_rangeFunc_ownH (F := Fence.wide) (n := 9) rfl (by omega) (gf := 60) (lb := #[.pointer (some ⟨bs, 0, none⟩)]) (by rw [ha0]; rfl) trivial (enters_of Try.func60 (by kernel_rfl) rfl) (back_stops (9 - 1) (by omega) bs w Wb A224_1 c224_1 L hNL HRb HBb.out BNb.out) (fun h k => h.trans k) (KpB.putObj HBb.out.size) (Below.refl _ _) (fun _ => rfl) (fun pre W => (∃ xs : List Bool, L.length ≤ xs.length ∧ Kd.R Kd.bool 4 W w.heap.size (fun _ => True) u221000 xs ∧ W.heap[gb215]? = some (.cells #[.int .i8 0, .slice none 0 0, .slice none 0 0] 29 (0, 0)) ∧ W.heap[gb220]? = some (.cells #[u221000] 89 (0, 0)) ∧ W.heap[bs]? = some (.cells #[.slice A224_1 L.length c224_1] 26 (0, 0)) ∧ (pre.map (·.1) = nsB L pre.length → ∃ kq, kq ≤ k1 ∧ impl_Network_trimmed.l1 kq l0 L ((L.length : Int) - 1 - (pre.length : Int)) xs = some (r1, r2, r3))) ∧ Below w.heap.size w W) (fun _ _ _ => False) (OwnFrom.and (Own.from (fun s A_ B_ row hs hg hr => by obtain ⟨xs, h1, h2, h3, h4, h5, h6⟩ := hs; exact ⟨xs, h1, R_turn h2 hg hr, blk_turn h3 hg hr, blk_turn h4 hg hr, blk_turn h5 hg hr, h6⟩) _) (ownFrom_below (Nat.le_refl _) HBb.out.size)) (fun _ _ _ _ _ hs _ _ => hs) ⟨⟨x221000_1, hxl0, HOb.out, B1b.out, B2b.out, BNb.out, fun _ => ⟨k1, Nat.le_refl _, by simpa using HL1⟩⟩, HBb.out⟩ (fun x a' W => ∃ Bx, W.heap[Bx]? = some (.cells #[.int .i8 x.1.2.f0, .int .i16 x.1.2.f1, .int .i16 x.1.2.f2] 61 (0, 0)) ∧ a' = { tmps := (((a0.tmps.setIfInBounds 36 (.int .i64 x.1.1)).setIfInBounds 37 (.agg #[.int .i8 x.1.2.f0, .int .i16 x.1.2.f1, .int .i16 x.1.2.f2])).setIfInBounds 6 (.int .i64 x.1.1)).setIfInBounds 7 (.pointer (some ⟨Bx, 0, none⟩)), defers := [] }) (fun x a' _ A_ B_ row hs hg hr => by obtain ⟨Bx, h2, h3⟩ := hs; exact ⟨Bx, blk_turn h2 hg (fun r e => (hr r e).2), h3⟩) ?assign ?body ?done ?stop
 case stop =>
  rintro D c pre W _ _ h _
  exact h.elim
 case assign =>
  intro l pre x W K hi hK
  obtain ⟨⟨xs, h1, h2, h3, h4, h5, h6⟩, h7⟩ := hi
  simp only [encN, List.zip_toArray, List.zip_cons_cons, List.zip_nil_right, List.foldl_toArray, List.foldl_cons, List.foldl_nil]
  have hfr := hK
  clear hK
  subst ha0
  simp only [List.setIfInBounds_toArray, List.set_cons_zero, List.set_cons_succ]
  refine wpIn_seq (region_in (fun ⟨_, _, h⟩ => h) ?_)
  go_wp2
  refine region_in (fun ⟨_, _, h⟩ => h) ?_
  go_wp2_with (first | ((with_reducible refine gate_dst (N := 7) rfl ?_); refine zbx 7 #[.int .i8 0, .int .i16 0, .int .i16 0] 61 ?_; intro gx hg w2 hbox hb; have hbx := Aside0.mk hbox; have hb2 := Aside0.mk hb; have hg2 := Aside0.mk hg; clear hbox hb hg; obtain ⟨zx_0, zx_1, zx_2, yx_0, yx_1, yx_2⟩ := zB3 hbx))
  have hle : W.heap.size ≤ gx := Nat.le_of_eq hg2.out.symm
  have hB3 := below_set (below_set (below_set hb2.out hle (j := 0) (v := .int .i8 x.1.2.f0)) hle (j := 1) (v := .int .i16 x.1.2.f1)) hle (j := 2) (v := .int .i16 x.1.2.f2)
  exact hfr _ _ (keeps_below hB3) ⟨hB3.mono h7.size, fun v hv => blk_below hv hB3⟩ ⟨⟨xs, h1, Kd.R_below h2 hB3, blk_below h3 hB3, blk_below h4 hB3, blk_below h5 hB3, h6⟩, h7.trans (hB3.mono h7.size)⟩ ⟨gx, zp hbx, rfl⟩
 case body =>
  rintro l pre ⟨⟨i_, y_⟩, i, hi, hxe⟩ a' W hl hr ⟨⟨xs, hxl, HOx, BK1, BK2, BKN, hpre⟩, hBW⟩ ⟨Bx, bX, rfl⟩ hlt
  obtain ⟨rfl, rfl⟩ := Prod.mk.inj hxe
  subst ha0
  simp only [List.setIfInBounds_toArray, List.set_cons_zero, List.set_cons_succ]
  have hL0 : 0 < xs.length := by omega
  have hix : (i : Int) < (xs.length : Int) := by omega
  obtain ⟨go, co, eo, gb_, gl_, cl_, HG⟩ := Kd.R_form HOx hL0
  subst eo
  obtain ⟨hu_0, hf_0⟩ := Kd.R_celln false HOx (i : Int) (by omega) hix
  rw [Int.toNat_natCast] at hu_0 hf_0
  obtain ⟨hB2c, hB2f⟩ := zB1 ⟨BK2⟩
  obtain ⟨zx_0, zx_1, zx_2, yx_0, yx_1, yx_2⟩ := zB3 ⟨bX⟩
  have hHO := Aside0.mk HOx
  have hBK1 := Aside0.mk BK1
  have hBK2 := Aside0.mk BK2
  have hBKN := Aside0.mk BKN
  have hbX := Aside0.mk bX
  have hBW' := Aside0.mk hBW
  have hNX := Aside0.mk (next_ hNL hi hlt (⟨((i : Int), rd_T61 L (i : Int)), i, hi, rfl⟩ : NX L) rfl hpre)
  have hGE := Aside0.mk gb_
  clear HOx BK1 BK2 BKN bX hBW hpre HG gl_ cl_ gb_
  by_cases hu : rdOf false xs (i : Int) = true
  rotate_left
  ·have eT : turnU L xs i = xs := by unfold turnU; rw [if_neg hu]
   replace hu := Bool.eq_false_iff.mpr hu
   rw [hu] at hu_0
   refine wpIn_block (wpIn_seq (region_in (fun ⟨_, _, h⟩ => h) ?_))
   go_wp2
   refine wpIn_cond_false rfl (wpIn_skip ?_)
   rw [eT] at hNX
   exact ⟨KeepsFrom.refl _ _, KpB.refl _ _ _, ⟨xs, hxl, hHO.out, hBK1.out, hBK2.out, hBKN.out, hNX.out⟩, hBW'.out⟩
  rw [hu] at hu_0
  by_cases hy : (rd_T61 L (i : Int)).f0 = 2 ∨ (rd_T61 L (i : Int)).f0 = 3
  rotate_left
  ·have eT : turnU L xs i = xs := by unfold turnU; rw [if_pos hu, if_neg hy]
   have hin : impl_Node_inner.f (rd_T61 L (i : Int)).f0 (rd_T61 L (i : Int)).f1 (rd_T61 L (i : Int)).f2 = some false := by rw [inner_some, decide_eq_false hy]
   have HIN := Aside0.mk hin
   rw [eT] at hNX
   clear hin hy hu eT
   refine wpIn_block (wpIn_seq (region_in (fun ⟨_, _, h⟩ => h) ?_))
   go_wp2_with (first | (go_at_call 55; (with_reducible refine (impl_Node_inner.calls (rd_T61 L (i : Int)).f0 (rd_T61 L (i : Int)).f1 (rd_T61 L (i : Int)).f2 false _ HIN.out).mono ?_); rintro e w4 ⟨rfl, hb⟩; have hb4 := Aside0.mk hb; clear hb))
   refine wpIn_cond_false rfl (wpIn_skip ?_)
   have hb := hb4.out
   exact ⟨keeps_below hb, ⟨hb.mono hBW'.out.size, fun v hv => blk_below hv hb⟩, ⟨xs, hxl, Kd.R_below hHO.out hb, blk_below hBK1.out hb, blk_below hBK2.out hb, blk_below hBKN.out hb, hNX.out⟩, hBW'.out.trans (hb.mono hBW'.out.size)⟩
  have eT : turnU L xs i = (xs.set ((rd_T61 L (i : Int)).f1).toNat true).set ((rd_T61 L (i : Int)).f2).toNat true := by unfold turnU; rw [if_pos hu, if_pos hy]
  obtain ⟨⟨pa0, pa1⟩, pb0, pb1⟩ := okNs_at hOK hi hy
  have hin : impl_Node_inner.f (rd_T61 L (i : Int)).f0 (rd_T61 L (i : Int)).f1 (rd_T61 L (i : Int)).f2 = some true := by rw [inner_some, decide_eq_true hy]
  have HIN := Aside0.mk hin
  have PA := Aside0.mk (And.intro pa0 (And.intro pa1 (And.intro pb0 pb1)))
  have ET := Aside0.mk eT
  clear hin hy eT pa0 pa1 pb0 pb1
  refine wpIn_block (wpIn_seq (region_in (fun ⟨_, _, h⟩ => h) ?_))
  go_wp2_with (first | (go_at_call 55; (with_reducible refine (impl_Node_inner.calls (rd_T61 L (i : Int)).f0 (rd_T61 L (i : Int)).f1 (rd_T61 L (i : Int)).f2 true _ HIN.out).mono ?_); rintro e w4 ⟨rfl, hb⟩; have hb4 := Aside0.mk hb; clear hb))
  refine wpIn_cond_true rfl ?_
  obtain ⟨AI, hAI⟩ : ∃ a_ : Int, a_ = (rd_T61 L (i : Int)).f1 := ⟨_, rfl⟩
  obtain ⟨BI, hBI⟩ : ∃ a_ : Int, a_ = (rd_T61 L (i : Int)).f2 := ⟨_, rfl⟩
  obtain ⟨pa0, pa1, pb0, pb1⟩ := PA.out
  replace ET := ET.out
  replace hbX := hbX.out
  rw [← hAI] at pa0 pa1 ET hbX
  rw [← hBI] at pb0 pb1 ET hbX
  have PA := Aside0.mk (And.intro pa0 (And.intro pa1 (And.intro pb0 pb1)))
  replace ET := Aside0.mk ET
  replace hbX := Aside0.mk hbX
  have da0 : decide (0 ≤ AI) = true := decide_eq_true pa0
  have da1 : decide (AI < (xs.length : Int)) = true := decide_eq_true (by omega)
  have db0 : decide (0 ≤ BI) = true := decide_eq_true pb0
  have db1 : decide (BI < (xs.length : Int)) = true := decide_eq_true (by omega)
  have qa0 : (0 ≤ AI) = True := eq_true pa0
  have qa1 : (AI < (xs.length : Int)) = True := eq_true (by omega)
  have qb0 : (0 ≤ BI) = True := eq_true pb0
  have qb1 : (BI < (xs.length : Int)) = True := eq_true (by omega)
  clear pa0 pa1 pb0 pb1 hAI hBI
  have hb := hb4.out
  have hO4 := Aside0.mk (Kd.R_drew (Kd.R_below hHO.out hb))
  have h14 := Aside0.mk (blk_drew (blk_below hBK1.out hb))
  have h24 := Aside0.mk (blk_drew (blk_below hBK2.out hb))
  have hN4 := Aside0.mk (blk_drew (blk_below hBKN.out hb))
  have hX4 := Aside0.mk (blk_drew (blk_below hbX.out hb))
  have hW4 := Aside0.mk (below_drew1 (hBW'.out.trans (hb.mono hBW'.out.size)))
  have hK4 : Aside0 (KeepsFrom Wb.heap.size W w4.drew) := ⟨(keeps_below hb).trans ((KeepsOthers.drew _).from _)⟩
  have hP4 : Aside0 (KpB w.heap.size bs W w4.drew) := ⟨⟨below_drew1 (hb.mono hBW'.out.size), fun v hv => blk_drew (blk_below hv hb)⟩⟩
  refine startIn_ (m := 10) (S := fun w' => w'.cell? ⟨gb220, 0, none⟩ = some (.slice (some ⟨go, 0, none⟩) xs.length co) ∧ w'.cell? ⟨Bx, 1, none⟩ = some (.int .i16 AI) ∧ w'.cell? ⟨Bx, 2, none⟩ = some (.int .i16 BI)) (ds := [9]) #[false, false, false, false, false, false, false, false, false, false] (fun ⟨_, _, h⟩ => h) (by kernel_rfl) (by kernel_rfl) rfl rfl ⟨(blk_cell h24.out 0).trans rfl, (blk_cell hX4.out 1).trans rfl, (blk_cell hX4.out 2).trans rfl⟩ (fun hHeld => ?_); refine with_tabW impl_Network_trimmed.tab11 impl_Network_trimmed.bits11 (fun HT_ HW_ => ?_)
  clear hb hb4 hHO hBK1 hBK2 hBKN hbX hu_0 hf_0 hB2c hB2f zx_0 zx_1 zx_2 yx_0 yx_1 yx_2 hBW'
  generalize w4.drew = w5 at hO4 h14 h24 hN4 hX4 hW4 hK4 hP4 hHeld ⊢
  refine take_ (i := 0) (N := some 46) (v := ?_) (a' := ?_) #[true, false, false, false, false, false, false, false, false, false] rfl rfl (take_ofW HT_.out HW_.out (by kernel_rfl)) (fun _ _ _ h => h) (Or.inl ⟨by rfl, ?_⟩) hHeld ?_ ?_
  rotate_left
  · rintro w' ⟨s0, s1, s2⟩
    go_simp
    with_reducible rfl
  rotate_left
  · simp only [Act.put, List.setIfInBounds_toArray, List.set_cons_zero, List.set_cons_succ, i64_w, i32_w]
    rfl
  refine pure_ (i := 1) (N := some 47) (v := ?_) (a' := ?_) #[true, true, false, false, false, false, false, false, false, false] rfl rfl (any_of HT_.out (by kernel_rfl)) (fun _ _ _ h => h) (Or.inl ⟨by rfl, ?_⟩) ?_ ?_
  rotate_left
  · intro w'
    go_simp
    with_reducible rfl
  rotate_left
  · simp only [Act.put, List.setIfInBounds_toArray, List.set_cons_zero, List.set_cons_succ, i64_w, i32_w]
    rfl
  refine take_ (i := 2) (N := some 48) (v := ?_) (a' := ?_) #[true, true, true, false, false, false, false, false, false, false] rfl rfl (take_ofW HT_.out HW_.out (by kernel_rfl)) (fun _ _ _ h => h) (Or.inl ⟨by rfl, ?_⟩) hHeld ?_ ?_
  rotate_left
  · rintro w' ⟨s0, s1, s2⟩
    go_simp
    with_reducible rfl
  rotate_left
  · simp only [Act.put, List.setIfInBounds_toArray, List.set_cons_zero, List.set_cons_succ, i64_w, i32_w]
    rfl
  refine take_ (i := 3) (N := some 49) (v := ?_) (a' := ?_) #[true, true, true, true, false, false, false, false, false, false] rfl rfl (take_ofW HT_.out HW_.out (by kernel_rfl)) (fun _ _ _ h => h) (Or.inl ⟨by rfl, ?_⟩) hHeld ?_ ?_
  rotate_left
  · rintro w' ⟨s0, s1, s2⟩
    go_simp
    with_reducible rfl
  rotate_left
  · simp only [Act.put, List.setIfInBounds_toArray, List.set_cons_zero, List.set_cons_succ, i64_w, i32_w]
    rfl
  refine pure_ (i := 4) (N := some 50) (v := ?_) (a' := ?_) #[true, true, true, true, true, false, false, false, false, false] rfl rfl (any_of HT_.out (by kernel_rfl)) (fun _ _ _ h => h) (Or.inl ⟨by rfl, ?_⟩) ?_ ?_
  rotate_left
  · intro w'
    go_simp
    with_reducible rfl
  rotate_left
  · simp only [Act.put, List.setIfInBounds_toArray, List.set_cons_zero, List.set_cons_succ, i64_w, i32_w]
    rfl
  refine take_ (i := 5) (N := some 51) (v := ?_) (a' := ?_) #[true, true, true, true, true, true, false, false, false, false] rfl rfl (take_ofW HT_.out HW_.out (by kernel_rfl)) (fun _ _ _ h => h) (Or.inl ⟨by rfl, ?_⟩) hHeld ?_ ?_
  rotate_left
  · rintro w' ⟨s0, s1, s2⟩
    go_simp
    with_reducible rfl
  rotate_left
  · simp only [Act.put, List.setIfInBounds_toArray, List.set_cons_zero, List.set_cons_succ, i64_w, i32_w]
    rfl
  refine pure_ (i := 6) (N := some 52) (v := ?_) (a' := ?_) #[true, true, true, true, true, true, true, false, false, false] rfl rfl (any_of HT_.out (by kernel_rfl)) (fun _ _ _ h => h) (Or.inl ⟨by rfl, ?_⟩) ?_ ?_
  rotate_left
  · intro w'
    go_simp
    with_reducible rfl
  rotate_left
  · simp only [Act.put, List.setIfInBounds_toArray, List.set_cons_zero, List.set_cons_succ, i64_w, i32_w]
    rfl
  obtain ⟨hca, hfa⟩ := Kd.R_celln false hO4.out AI PA.out.1 (by have := PA.out; omega)
  obtain ⟨s1, s2, s3⟩ := st_ hO4.out AI hGE.out
  refine one_ (i := 7) (N := none) #[true, true, true, true, true, true, true, true, false, false] rfl rfl (one_of HT_.out (by kernel_rfl)) (by simp) (fun K hK => ?_)
  refine skip_ (w1 := ?_) (by rfl) rfl ?_ ?_
  rotate_left
  · go_simp
    rfl
  refine hK.out _ _ ⟨(blk_cell (s2 _ _ _ (by decide) h24.out) 0).trans rfl, (blk_cell (s2 _ _ _ (by decide) hX4.out) 1).trans rfl, (blk_cell (s2 _ _ _ (by decide) hX4.out) 2).trans rfl⟩ (fun hHeld => ?_)
  clear hK K
  replace hO4 := Aside0.mk s1
  replace h14 := Aside0.mk (s2 _ _ _ (by decide) h14.out)
  replace h24 := Aside0.mk (s2 _ _ _ (by decide) h24.out)
  have hNs := s2 bs 26
  replace hN4 := Aside0.mk (s2 _ _ _ (by decide) hN4.out)
  replace hX4 := Aside0.mk (s2 _ _ _ (by decide) hX4.out)
  replace hW4 := Aside0.mk (hW4.out.trans s3)
  replace hK4 := Aside0.mk (hK4.out.trans ((KeepsOthers.setCell w5 ⟨go, AI.toNat, none⟩ (.bool true)).from _))
  replace hP4 := Aside0.mk (hP4.out.trans ⟨s3, fun v hv => hNs _ (by decide) hv⟩)
  clear s1 s2 s3 hNs hca hfa
  generalize w5.setCell ⟨go, AI.toNat, none⟩ (.bool true) = w6 at hO4 h14 h24 hN4 hX4 hW4 hK4 hP4 hHeld ⊢
  refine pure_ (i := 8) (N := some 53) (v := ?_) (a' := ?_) #[true, true, true, true, true, true, true, true, true, false] rfl rfl (any_of HT_.out (by kernel_rfl)) (fun _ _ _ h => h) (Or.inl ⟨by rfl, ?_⟩) ?_ ?_
  rotate_left
  · intro w'
    go_simp
    with_reducible rfl
  rotate_left
  · simp only [Act.put, List.setIfInBounds_toArray, List.set_cons_zero, List.set_cons_succ, i64_w, i32_w]
    rfl
  obtain ⟨hca, hfa⟩ := Kd.R_celln false hO4.out BI PA.out.2.2.1 (by have := PA.out; omega)
  obtain ⟨s1, s2, s3⟩ := st_ hO4.out BI hGE.out
  refine last_ (i := 9) (N := none) #[true, true, true, true, true, true, true, true, true, true] rfl rfl (one_of HT_.out (by kernel_rfl)) (by decide) (fun K hK => ?_)
  refine skip_ (w1 := ?_) (by rfl) rfl ?_ ?_
  rotate_left
  · go_simp
    rfl
  refine hK.out _ _ ?_
  clear hK K
  refine done_ (done_of HT_.out (by kernel_rfl)) ?_
  clear hHeld HT_ HW_
  rw [ET.out] at hNX
  exact ⟨hK4.out.trans ((KeepsOthers.setCell _ _ _).from _), hP4.out.trans ⟨s3, fun v hv => s2 _ _ _ (by decide) hv⟩, ⟨_, by simpa using hxl, s1, s2 _ _ _ (by decide) h14.out, s2 _ _ _ (by decide) h24.out, s2 _ _ _ (by decide) hN4.out, hNX.out⟩, hW4.out.trans s3⟩
 have hg1 : gb215 < Wb.heap.size := blk_lt B1b.out
 have hg2 : gb220 < Wb.heap.size := blk_lt B2b.out
 clear HOb B1b B2b BNb hsz HL1 hxl0 hOK hNL HRb
 rintro gb231 ys wr hDs hS ⟨⟨x221000_2, hxl, HO_221000, BK215, BK220, BKN, hpre⟩, HB_⟩ hDef
 have hlen : ys.length = L.length := by rw [← List.length_map (f := (·.1)), hS, nsB_len]
 obtain ⟨gk, hgk, H⟩ := hpre (by rw [hS, hlen])
 have hsz := HBb.out.size
 clear HBb hpre BKN hS hxl
 obtain ⟨xd, hxd⟩ : ∃ x_ : Int, x_ = (L.length : Int) - 1 - (ys.length : Int) := ⟨_, rfl⟩
 rw [← hxd] at H
 have hxd' : ¬ (xd ≥ 0) := by omega
 clear hxd hlen
 cases gk with
 | zero => exact absurd H (by simp [impl_Network_trimmed.l1])
 | succ k2 => ?_
 simp only [impl_Network_trimmed.l1] at H
 rw [if_neg hxd'] at H
 have HK2 : Aside0 (k2 + 1 ≤ k1) := ⟨hgk⟩
 have n_ : _ ∧ _ ∧ _ ∧ _ ∧ _ ∧ _ ∧ _ ∧ _ ∧ _ ∧ _ := ⟨Aside0.mk HO_221000, Aside0.mk BK215, Aside0.mk BK220, Aside0.mk HB_, Aside0.mk hDef, Aside0.mk (show w.heap.size ≤ gb231 by omega), Aside0.mk (show gb215 ≠ gb231 by omega), Aside0.mk (show gb231 ≠ gb215 by omega), Aside0.mk (show gb220 ≠ gb231 by omega), Aside0.mk (show gb231 ≠ gb220 by omega)⟩
 clear hxd' HLq hgk hDs hsz hg1 hg2 HO_221000 BK215 BK220 HB_ hDef
 obtain ⟨HO_221000, BK215, BK220, HB, BK231, GE231, NB215_231, NB231_215, NB220_231, NB231_220⟩ := n_
 clear ys L
 subst ha0
 dsimp only
 by_cases c66 : 0 < (l0.length : Int)
 rotate_left
 ·rw [if_neg c66] at H
  exact absurd H (by simp)
 rw [if_pos c66] at H
 have c66b0 : decide (0 < (l0.length : Int)) = true := decide_eq_true c66
 have c66b1 : decide (0 < l0.length) = true := decide_eq_true (by omega)
 clear c66
 by_cases c67 : 0 ≤ (((rd_T29 l0 0).f1).length : Int)
 rotate_left
 ·rw [if_neg c67] at H
  exact absurd H (by simp)
 rw [if_pos c67] at H
 have c67b0 := eq_true c67
 have c67b1 : decide (0 ≤ (((rd_T29 l0 0).f1).length : Int)) = true := decide_eq_true c67
 clear c67
 by_cases c68 : ((((rd_T29 l0 0).f1).length : Int) : Int).toNat ≤ 140737488355328
 rotate_left
 ·rw [if_neg c68] at H
  exact absurd H (by simp)
 rw [if_pos c68] at H
 have c68b0 := eq_true c68
 have c68b1 : decide (((((rd_T29 l0 0).f1).length : Int) : Int).toNat ≤ 140737488355328) = true := decide_eq_true c68
 clear c68
 obtain ⟨y234, hy234⟩ : ∃ y_ : List Int, y_ = (List.replicate ((((rd_T29 l0 0).f1).length : Int) : Int).toNat 0) := ⟨_, rfl⟩
 replace H : (impl_Network_trimmed.l2 k2 l0 y234 ((rd_T29 l0 0).f1) (((rd_T29 l0 0).f1).length : Int) 0 x221000_2 ((rd_T29 l0 0).f0) ([] : List (S61))) = some (r1, r2, r3) := by first | (rw [hy234]; with_reducible exact H) | (have H2_ := (Option.bind_some _ _).symm.trans H; rw [hy234]; with_reducible exact H2_) | (have H2_ := (Option.bind_some _ _).symm.trans H; with_reducible exact H2_) | with_reducible exact H | (rw [hy234]; exact H) | exact H
 have Ny234 := Aside0.mk hy234
 clear hy234
 have H' := Aside0.mk H
 clear H
 try go_wp2
 have n_ : _ ∧ _ ∧ _ ∧ _ ∧ _ := ⟨Aside0.mk (Kd.R_drew HO_221000.out), Aside0.mk (blk_drew BK215.out), Aside0.mk (blk_drew BK220.out), Aside0.mk (blk_drew BK231.out), Aside0.mk (below_drew1 HB.out)⟩
 clear HO_221000 BK215 BK220 BK231 HB
 obtain ⟨HO_221000, BK215, BK220, BK231, HB⟩ := n_
 have p232 : 0 ≤ (0 : Int) := (by omega)
 have q232 : 0 < (l0.length : Int) := of_decide_eq_true zA
 obtain ⟨ad232, A232_1, c232_1, A232_2, c232_2, e232, hx232_0, hx232_1, hx232_2, hl232_1, hi232_1, hl232_2, hi232_2⟩ := at_T29 HR0.out 0 p232 q232
 have hw232_2 := hx232_2
 try simp only [z00, Nat.zero_mul, Addr.add_zero'] at hw232_2
 have hw232_1 := hx232_1
 try simp only [z00, Nat.zero_mul, Addr.add_zero'] at hw232_1
 have hw232_0 := hx232_0
 try simp only [z00, Nat.zero_mul, Addr.add_zero'] at hw232_0
 obtain rfl : adp0 = ad232 := (by injection e232)
 have qi232 : (0 < l0.length) = True := eq_true (by omega)
 try simp only [z00, Nat.zero_mul, Addr.add_zero'] at hx232_0 hx232_1 hx232_2
 replace hx232_0 := zc HB hx232_0
 replace hx232_1 := zc HB hx232_1
 replace hx232_2 := zc HB hx232_2
 have HR232_1 := Aside0.mk hi232_1
 have HC232_1 := Aside0.mk hl232_1
 clear hi232_1 hl232_1
 have HR232_2 := Aside0.mk hi232_2
 have HC232_2 := Aside0.mk hl232_2
 clear hi232_2 hl232_2
 replace p232 := eq_true p232
 replace q232 := eq_true q232
 have p233 : 0 ≤ (0 : Int) := (by omega)
 have q233 : 0 < (l0.length : Int) := of_decide_eq_true zA
 obtain ⟨ad233, A233_1, c233_1, A233_2, c233_2, e233, hx233_0, hx233_1, hx233_2, hl233_1, hi233_1, hl233_2, hi233_2⟩ := at_T29 HR0.out 0 p233 q233
 have hw233_2 := hx233_2
 try simp only [z00, Nat.zero_mul, Addr.add_zero'] at hw233_2
 have hw233_1 := hx233_1
 try simp only [z00, Nat.zero_mul, Addr.add_zero'] at hw233_1
 have hw233_0 := hx233_0
 try simp only [z00, Nat.zero_mul, Addr.add_zero'] at hw233_0
 obtain rfl : adp0 = ad233 := (by injection e233)
 have qi233 : (0 < l0.length) = True := eq_true (by omega)
 try simp only [z00, Nat.zero_mul, Addr.add_zero'] at hx233_0 hx233_1 hx233_2
 replace hx233_0 := zc HB hx233_0
 replace hx233_1 := zc HB hx233_1
 replace hx233_2 := zc HB hx233_2
 have HR233_1 := Aside0.mk hi233_1
 have HC233_1 := Aside0.mk hl233_1
 clear hi233_1 hl233_1
 have HR233_2 := Aside0.mk hi233_2
 have HC233_2 := Aside0.mk hl233_2
 clear hi233_2 hl233_2
 replace p233 := eq_true p233
 replace q233 := eq_true q233
 have ea_ := Option.some.inj (hx232_1.symm.trans hx233_1)
 injection ea_ with ea_ en_ ec_
 subst ea_
 subst ec_
 clear en_
 have ea_ := Option.some.inj (hx232_2.symm.trans hx233_2)
 injection ea_ with ea_ en_ ec_
 subst ea_
 subst ec_
 clear en_
 refine start_ (n := 14) (S := fun w' => w'.cell? adp0 = some (.int .i8 ((rd_T29 l0 0).f0)) ∧ w'.cell? ⟨adp0.block, adp0.off + 1, none⟩ = some (.slice A232_1 ((rd_T29 l0 0).f1).length c232_1) ∧ w'.cell? ⟨adp0.block, adp0.off + 2, none⟩ = some (.slice A232_2 ((rd_T29 l0 0).f2).length c232_2) ∧ w'.cell? adp0 = some (.int .i8 ((rd_T29 l0 0).f0)) ∧ w'.cell? ⟨adp0.block, adp0.off + 1, none⟩ = some (.slice A232_1 ((rd_T29 l0 0).f1).length c232_1) ∧ w'.cell? ⟨adp0.block, adp0.off + 2, none⟩ = some (.slice A232_2 ((rd_T29 l0 0).f2).length c232_2)) (ds := []) (zq 14 0) (by kernel_rfl) rfl rfl ⟨(zc HB hw232_0), (zc HB hw232_1), (zc HB hw232_2), (zc HB hw233_0), (zc HB hw233_1), (zc HB hw233_2)⟩ (fun hHeld => ?_); refine with_tabW impl_Network_trimmed.tab12 impl_Network_trimmed.bits12 (fun HT_ HW_ => ?_)
 generalize wr.drew = w70 at HO_221000 BK215 BK220 BK231 HB HR232_1 HR232_2 HR233_1 HR233_2 hx232_0 hx232_1 hx232_2 hx233_0 hx233_1 hx233_2 hHeld ⊢
 refine zpu 0 (some 54) (zq 14 1) HT_ ?_
 refine zpu 1 (some 55) (zq 14 3) HT_ ?_
 refine zpu 2 (some 56) (zq 14 7) HT_ ?_
 refine zpu 5 (some 59) (zq 14 39) HT_ ?_
 refine zpu 6 (some 60) (zq 14 103) HT_ ?_
 refine zpu 7 (some 61) (zq 14 231) HT_ ?_
 refine ztk 3 (some 57) (zq 14 239) HT_ HW_ rfl hHeld (Or.inl ⟨by rfl, by (rintro w' ⟨s0, s1, s2, s3, s4, s5⟩; go_simp; with_reducible rfl)⟩) ?_
 refine zpu 4 (some 58) (zq 14 255) HT_ ?_
 refine ztk 8 (some 62) (zq 14 511) HT_ HW_ rfl hHeld (Or.inl ⟨by rfl, by (rintro w' ⟨s0, s1, s2, s3, s4, s5⟩; go_simp; with_reducible rfl)⟩) ?_
 refine zpu 9 (some 63) (zq 14 1023) HT_ ?_
 refine join_ (σ := Value × Nat) 1 (zq 14 8191) (fun s_ => [(64, s_.1), (8, .pointer (some ⟨s_.2, 0, none⟩))]) (fun s_ w' => (w'.cell? adp0 = some (.int .i8 ((rd_T29 l0 0).f0)) ∧ w'.cell? ⟨adp0.block, adp0.off + 1, none⟩ = some (.slice A232_1 ((rd_T29 l0 0).f1).length c232_1) ∧ w'.cell? ⟨adp0.block, adp0.off + 2, none⟩ = some (.slice A232_2 ((rd_T29 l0 0).f2).length c232_2) ∧ w'.cell? adp0 = some (.int .i8 ((rd_T29 l0 0).f0)) ∧ w'.cell? ⟨adp0.block, adp0.off + 1, none⟩ = some (.slice A232_1 ((rd_T29 l0 0).f1).length c232_1) ∧ w'.cell? ⟨adp0.block, adp0.off + 2, none⟩ = some (.slice A232_2 ((rd_T29 l0 0).f2).length c232_2)) ∧ (Kd.R (Kd.int .i16) 54 w' w.heap.size (fun _ => True) s_.1 y234) ∧ (Kd.R Kd.bool 4 w' w.heap.size (fun _ => True) u221000 x221000_2) ∧ (w'.heap[gb215]? = some (.cells #[.int .i8 0, .slice none 0 0, .slice none 0 0] 29 (0, 0))) ∧ (w'.heap[gb220]? = some (.cells #[u221000] 89 (0, 0))) ∧ (w'.heap[gb231]? = some (.deferred (some []))) ∧ (w'.heap[s_.2]? = some (.cells #[.int .i8 ((rd_T29 l0 0).f0), .slice none 0 0, .slice none 0 0] 29 (0, 0))) ∧ (w.heap.size ≤ s_.2) ∧ (w.heap.size ≤ s_.2) ∧ (gb215 ≠ s_.2) ∧ (s_.2 ≠ gb215) ∧ (gb220 ≠ s_.2) ∧ (s_.2 ≠ gb220) ∧ (gb231 ≠ s_.2) ∧ (s_.2 ≠ gb231) ∧ (Below w.heap.size w w')) ?_ ?_
 rotate_left
 ·intro hCont
  refine two_ (i := 10) (j := 11) (Ni := some 64) (Nj := some 8) (zq 14 2047) (zq 14 3071) rfl rfl rfl rfl (two_of HT_.out (by kernel_rfl)) (by decide) (by decide) (fun K hK => ?_) (fun K hK => ?_)
  ·skip
   refine Kd.R_make_step (Kd.int .i16) _ 54 (by rfl) (N := 64) rfl 27 _ _ rfl (((rd_T29 l0 0).f1).length : Int) rfl rfl Try.underlying27 (.int .i16 0) 2 info54 rfl (by decide) (by omega) 0 (ok := fun _ => True) (okp := fun _ => True) rfl (fun _ hk => hk) trivial (of_decide_eq_true zA) (Nat.le_trans (Nat.mul_le_mul_right _ (of_decide_eq_true zA : (((rd_T29 l0 0).f1).length : Int).toNat ≤ 140737488355328)) (by omega)) (Below.refl _ _) (Nat.le_refl _) ?_
   intro v235 w71 ho72 hb hg_ hnew_
   clear hg_ hnew_
   (first | rw [← Ny234.out] at ho72 | (simp only [Int.reduceToNat] at ho72; rw [← Ny234.out] at ho72))
   have n_ : _ ∧ _ ∧ _ ∧ _ ∧ _ ∧ _ := ⟨zr HO_221000 hb, Aside0.mk (Kd.R_lower ho72 (zz HB)), zk BK215 hb, zk BK220 hb, zk BK231 hb, zbs hb⟩
   clear HO_221000 BK215 BK220 BK231 HB
   obtain ⟨HO_221000, HO236, BK215, BK220, BK231, HB⟩ := n_
   clear hb ho72
   refine hK.out _ _ ⟨(zc HB hw232_0), (zc HB hw232_1), (zc HB hw232_2), (zc HB hw233_0), (zc HB hw233_1), (zc HB hw233_2)⟩ (fun hHeld => ?_)
   clear hK K
   refine norm_ (a' := ?_) ?_ ?_
   rotate_left
   ·show Act.put _ (some 64) _ = _
    exact zap
   refine one_ (i := 11) (N := some 8) (zq 14 4095) rfl rfl (one_of HT_.out (by kernel_rfl)) (by decide) (fun K hK => ?_)
   refine box_step ?hg (N := 8) ?hd (cs := #[.int .i8 0, .slice none 0 0, .slice none 0 0]) (t := 29) ?hr ?_; (case hd => rfl); (case hg => rfl); (case hr => exact zgs)
   intro gb237 hg w73 hbox hb
   have n_ : _ ∧ _ ∧ _ ∧ _ ∧ _ ∧ _ ∧ _ ∧ _ ∧ _ ∧ _ ∧ _ ∧ _ ∧ _ ∧ _ ∧ _ := ⟨zr HO_221000 hb, zr HO236 hb, zk BK215 hb, zk BK220 hb, zk BK231 hb, zbs hb, Aside0.mk (hbox), zg HB hg, zg HB hg, zn1 BK215 hg, zn2 BK215 hg, zn1 BK220 hg, zn2 BK220 hg, zn1 BK231 hg, zn2 BK231 hg⟩
   clear HO_221000 HO236 BK215 BK220 BK231 HB
   obtain ⟨HO_221000, HO236, BK215, BK220, BK231, HB, BK237, GW237, GE237, NB215_237, NB237_215, NB220_237, NB237_220, NB231_237, NB237_231⟩ := n_
   clear hb hbox hg
   refine hK.out _ _ ⟨(zc HB hw232_0), (zc HB hw232_1), (zc HB hw232_2), (zc HB hw233_0), (zc HB hw233_1), (zc HB hw233_2)⟩ (fun hHeld => ?_)
   clear hK K
   refine norm_ (a' := ?_) ?_ ?_
   rotate_left
   ·show Act.put _ (some 8) _ = _
    exact zap
   refine one_ (i := 12) (N := none) (zq 14 8191) rfl rfl (one_of HT_.out (by kernel_rfl)) (by decide) (fun K hK => ?_)
   have hs74 : w73.cell? ⟨gb237, 0, none⟩ = some (.int .i8 0) := (blk_cell BK237.out 0).trans rfl
   have hfs74 := blk_frozen BK237.out 0
   have hns74_0 := NB215_237.out
   have hns74_1 := NB220_237.out
   have hns74_2 := NB231_237.out
   have hms74_0 := NB237_215.out
   have hms74_1 := NB237_220.out
   have hms74_2 := NB237_231.out
   have hs75 : w73.cell? ⟨gb237, 1, none⟩ = some (.slice none 0 0) := (blk_cell BK237.out 1).trans rfl
   have hfs75 := blk_frozen BK237.out 1
   have hns75_0 := NB215_237.out
   have hns75_1 := NB220_237.out
   have hns75_2 := NB231_237.out
   have hms75_0 := NB237_215.out
   have hms75_1 := NB237_220.out
   have hms75_2 := NB237_231.out
   have hs76 : w73.cell? ⟨gb237, 2, none⟩ = some (.slice none 0 0) := (blk_cell BK237.out 2).trans rfl
   have hfs76 := blk_frozen BK237.out 2
   have hns76_0 := NB215_237.out
   have hns76_1 := NB220_237.out
   have hns76_2 := NB231_237.out
   have hms76_0 := NB237_215.out
   have hms76_1 := NB237_220.out
   have hms76_2 := NB237_231.out
   refine skip_ (w1 := ?_) (by rfl) rfl ?_ ?_
   rotate_left
   ·go_simp
    rfl
   refine hK.out _ _ ⟨(zcf hw232_0 GW237 ((zcf hw232_0 GW237 ((zcf hw232_0 GW237 (hHeld.1)))))), (zcf hw232_1 GW237 ((zcf hw232_1 GW237 ((zcf hw232_1 GW237 (hHeld.2.1)))))), (zcf hw232_2 GW237 ((zcf hw232_2 GW237 ((zcf hw232_2 GW237 (hHeld.2.2.1)))))), (zcf hw233_0 GW237 ((zcf hw233_0 GW237 ((zcf hw233_0 GW237 (hHeld.2.2.2.1)))))), (zcf hw233_1 GW237 ((zcf hw233_1 GW237 ((zcf hw233_1 GW237 (hHeld.2.2.2.2.1)))))), (zcf hw233_2 GW237 ((zcf hw233_2 GW237 ((zcf hw233_2 GW237 (hHeld.2.2.2.2.2))))))⟩ (fun hHeld => ?_)
   clear hK K
   exact norm_ (by simp only [putAll, Act.put, List.setIfInBounds_toArray, List.set_cons_zero, List.set_cons_succ]) (hCont (v235, gb237) _ ⟨hHeld, (Kd.R_mono (zs HO236 BK237).out (fun _ hk => trivial)), (Kd.R_mono (zs HO_221000 BK237).out (fun _ hk => trivial)), (zf BK215 NB215_237).out, (zf BK220 NB220_237).out, (zf BK231 NB231_237).out, (zp BK237), GW237.out, GE237.out, NB215_237.out, NB237_215.out, NB220_237.out, NB237_220.out, NB231_237.out, NB237_231.out, zbo⟩)
  skip
  refine box_step ?hg (N := 8) ?hd (cs := #[.int .i8 0, .slice none 0 0, .slice none 0 0]) (t := 29) ?hr ?_; (case hd => rfl); (case hg => rfl); (case hr => exact zgs)
  intro gb237 hg w71 hbox hb
  have n_ : _ ∧ _ ∧ _ ∧ _ ∧ _ ∧ _ ∧ _ ∧ _ ∧ _ ∧ _ ∧ _ ∧ _ ∧ _ ∧ _ := ⟨zr HO_221000 hb, zk BK215 hb, zk BK220 hb, zk BK231 hb, zbs hb, Aside0.mk (hbox), zg HB hg, zg HB hg, zn1 BK215 hg, zn2 BK215 hg, zn1 BK220 hg, zn2 BK220 hg, zn1 BK231 hg, zn2 BK231 hg⟩
  clear HO_221000 BK215 BK220 BK231 HB
  obtain ⟨HO_221000, BK215, BK220, BK231, HB, BK237, GW237, GE237, NB215_237, NB237_215, NB220_237, NB237_220, NB231_237, NB237_231⟩ := n_
  clear hb hbox hg
  refine hK.out _ _ ⟨(zc HB hw232_0), (zc HB hw232_1), (zc HB hw232_2), (zc HB hw233_0), (zc HB hw233_1), (zc HB hw233_2)⟩ (fun hHeld => ?_)
  clear hK K
  refine norm_ (a' := ?_) ?_ ?_
  rotate_left
  ·show Act.put _ (some 8) _ = _
   exact zap
  refine two_ (i := 10) (j := 12) (Ni := some 64) (Nj := none) (zq 14 4095) (zq 14 7167) rfl rfl rfl rfl (two_of HT_.out (by kernel_rfl)) (by decide) (by decide) (fun K hK => ?_) (fun K hK => ?_)
  rotate_left
  ·skip
   have hs72 : w71.cell? ⟨gb237, 0, none⟩ = some (.int .i8 0) := (blk_cell BK237.out 0).trans rfl
   have hfs72 := blk_frozen BK237.out 0
   have hns72_0 := NB215_237.out
   have hns72_1 := NB220_237.out
   have hns72_2 := NB231_237.out
   have hms72_0 := NB237_215.out
   have hms72_1 := NB237_220.out
   have hms72_2 := NB237_231.out
   have hs73 : w71.cell? ⟨gb237, 1, none⟩ = some (.slice none 0 0) := (blk_cell BK237.out 1).trans rfl
   have hfs73 := blk_frozen BK237.out 1
   have hns73_0 := NB215_237.out
   have hns73_1 := NB220_237.out
   have hns73_2 := NB231_237.out
   have hms73_0 := NB237_215.out
   have hms73_1 := NB237_220.out
   have hms73_2 := NB237_231.out
   have hs74 : w71.cell? ⟨gb237, 2, none⟩ = some (.slice none 0 0) := (blk_cell BK237.out 2).trans rfl
   have hfs74 := blk_frozen BK237.out 2
   have hns74_0 := NB215_237.out
   have hns74_1 := NB220_237.out
   have hns74_2 := NB231_237.out
   have hms74_0 := NB237_215.out
   have hms74_1 := NB237_220.out
   have hms74_2 := NB237_231.out
   refine skip_ (w1 := ?_) (by rfl) rfl ?_ ?_
   rotate_left
   ·go_simp
    rfl
   refine hK.out _ _ ⟨(zcf hw232_0 GW237 ((zcf hw232_0 GW237 ((zcf hw232_0 GW237 (hHeld.1)))))), (zcf hw232_1 GW237 ((zcf hw232_1 GW237 ((zcf hw232_1 GW237 (hHeld.2.1)))))), (zcf hw232_2 GW237 ((zcf hw232_2 GW237 ((zcf hw232_2 GW237 (hHeld.2.2.1)))))), (zcf hw233_0 GW237 ((zcf hw233_0 GW237 ((zcf hw233_0 GW237 (hHeld.2.2.2.1)))))), (zcf hw233_1 GW237 ((zcf hw233_1 GW237 ((zcf hw233_1 GW237 (hHeld.2.2.2.2.1)))))), (zcf hw233_2 GW237 ((zcf hw233_2 GW237 ((zcf hw233_2 GW237 (hHeld.2.2.2.2.2))))))⟩ (fun hHeld => ?_)
   clear hK K
   refine one_ (i := 10) (N := some 64) (zq 14 8191) rfl rfl (one_of HT_.out (by kernel_rfl)) (by decide) (fun K hK => ?_)
   refine Kd.R_make_step (Kd.int .i16) _ 54 (by rfl) (N := 64) rfl 27 _ _ rfl (((rd_T29 l0 0).f1).length : Int) rfl rfl Try.underlying27 (.int .i16 0) 2 info54 rfl (by decide) (by omega) 0 (ok := fun _ => True) (okp := fun _ => True) rfl (fun _ hk => hk) trivial (of_decide_eq_true zA) (Nat.le_trans (Nat.mul_le_mul_right _ (of_decide_eq_true zA : (((rd_T29 l0 0).f1).length : Int).toNat ≤ 140737488355328)) (by omega)) (Below.refl _ _) (Nat.le_refl _) ?_
   intro v235 w75 ho76 hb hg_ hnew_
   clear hg_ hnew_
   (first | rw [← Ny234.out] at ho76 | (simp only [Int.reduceToNat] at ho76; rw [← Ny234.out] at ho76))
   have n_ : _ ∧ _ ∧ _ ∧ _ ∧ _ ∧ _ ∧ _ := ⟨zsb HO_221000 BK237 hb, Aside0.mk (Kd.R_lower ho76 (zz HB)), zfb BK215 NB215_237 hb, zfb BK220 NB220_237 hb, zfb BK231 NB231_237 hb, Aside0.mk (blk_below (g := gb237) (o := .cells #[.int .i8 ((rd_T29 l0 0).f0), .slice none 0 0, .slice none 0 0] 29 (0, 0)) (zp BK237) hb), zbs hb⟩
   clear HO_221000 BK215 BK220 BK231 BK237 HB
   obtain ⟨HO_221000, HO236, BK215, BK220, BK231, BK237, HB⟩ := n_
   clear hb ho76
   refine hK.out _ _ ⟨(zc HB hw232_0), (zc HB hw232_1), (zc HB hw232_2), (zc HB hw233_0), (zc HB hw233_1), (zc HB hw233_2)⟩ (fun hHeld => ?_)
   clear hK K
   refine norm_ (a' := ?_) ?_ ?_
   rotate_left
   ·show Act.put _ (some 64) _ = _
    exact zap
   exact norm_ (by simp only [putAll, Act.put, List.setIfInBounds_toArray, List.set_cons_zero, List.set_cons_succ]) (hCont (v235, gb237) _ ⟨hHeld, (ze HO236).out, (ze HO_221000).out, (zh BK215).out, (zh BK220).out, (zh BK231).out, (zh BK237).out, GW237.out, GE237.out, NB215_237.out, NB237_215.out, NB220_237.out, NB237_220.out, NB231_237.out, NB237_231.out, zbo⟩)
  skip
  refine Kd.R_make_step (Kd.int .i16) _ 54 (by rfl) (N := 64) rfl 27 _ _ rfl (((rd_T29 l0 0).f1).length : Int) rfl rfl Try.underlying27 (.int .i16 0) 2 info54 rfl (by decide) (by omega) 0 (ok := fun _ => True) (okp := fun _ => True) rfl (fun _ hk => hk) trivial (of_decide_eq_true zA) (Nat.le_trans (Nat.mul_le_mul_right _ (of_decide_eq_true zA : (((rd_T29 l0 0).f1).length : Int).toNat ≤ 140737488355328)) (by omega)) (Below.refl _ _) (Nat.le_refl _) ?_
  intro v235 w72 ho73 hb hg_ hnew_
  clear hg_ hnew_
  (first | rw [← Ny234.out] at ho73 | (simp only [Int.reduceToNat] at ho73; rw [← Ny234.out] at ho73))
  have n_ : _ ∧ _ ∧ _ ∧ _ ∧ _ ∧ _ ∧ _ := ⟨zr HO_221000 hb, Aside0.mk (Kd.R_lower ho73 (zz HB)), zk BK215 hb, zk BK220 hb, zk BK231 hb, zk BK237 hb, zbs hb⟩
  clear HO_221000 BK215 BK220 BK231 BK237 HB
  obtain ⟨HO_221000, HO236, BK215, BK220, BK231, BK237, HB⟩ := n_
  clear hb ho73
  refine hK.out _ _ ⟨(zc HB hw232_0), (zc HB hw232_1), (zc HB hw232_2), (zc HB hw233_0), (zc HB hw233_1), (zc HB hw233_2)⟩ (fun hHeld => ?_)
  clear hK K
  refine norm_ (a' := ?_) ?_ ?_
  rotate_left
  ·show Act.put _ (some 64) _ = _
   exact zap
  refine one_ (i := 12) (N := none) (zq 14 8191) rfl rfl (one_of HT_.out (by kernel_rfl)) (by decide) (fun K hK => ?_)
  have hs74 : w72.cell? ⟨gb237, 0, none⟩ = some (.int .i8 0) := (blk_cell BK237.out 0).trans rfl
  have hfs74 := blk_frozen BK237.out 0
  have hns74_0 := NB215_237.out
  have hns74_1 := NB220_237.out
  have hns74_2 := NB231_237.out
  have hms74_0 := NB237_215.out
  have hms74_1 := NB237_220.out
  have hms74_2 := NB237_231.out
  have hs75 : w72.cell? ⟨gb237, 1, none⟩ = some (.slice none 0 0) := (blk_cell BK237.out 1).trans rfl
  have hfs75 := blk_frozen BK237.out 1
  have hns75_0 := NB215_237.out
  have hns75_1 := NB220_237.out
  have hns75_2 := NB231_237.out
  have hms75_0 := NB237_215.out
  have hms75_1 := NB237_220.out
  have hms75_2 := NB237_231.out
  have hs76 : w72.cell? ⟨gb237, 2, none⟩ = some (.slice none 0 0) := (blk_cell BK237.out 2).trans rfl
  have hfs76 := blk_frozen BK237.out 2
  have hns76_0 := NB215_237.out
  have hns76_1 := NB220_237.out
  have hns76_2 := NB231_237.out
  have hms76_0 := NB237_215.out
  have hms76_1 := NB237_220.out
  have hms76_2 := NB237_231.out
  refine skip_ (w1 := ?_) (by rfl) rfl ?_ ?_
  rotate_left
  ·go_simp
   rfl
  refine hK.out _ _ ⟨(zcf hw232_0 GW237 ((zcf hw232_0 GW237 ((zcf hw232_0 GW237 (hHeld.1)))))), (zcf hw232_1 GW237 ((zcf hw232_1 GW237 ((zcf hw232_1 GW237 (hHeld.2.1)))))), (zcf hw232_2 GW237 ((zcf hw232_2 GW237 ((zcf hw232_2 GW237 (hHeld.2.2.1)))))), (zcf hw233_0 GW237 ((zcf hw233_0 GW237 ((zcf hw233_0 GW237 (hHeld.2.2.2.1)))))), (zcf hw233_1 GW237 ((zcf hw233_1 GW237 ((zcf hw233_1 GW237 (hHeld.2.2.2.2.1)))))), (zcf hw233_2 GW237 ((zcf hw233_2 GW237 ((zcf hw233_2 GW237 (hHeld.2.2.2.2.2))))))⟩ (fun hHeld => ?_)
  clear hK K
  exact norm_ (by simp only [putAll, Act.put, List.setIfInBounds_toArray, List.set_cons_zero, List.set_cons_succ]) (hCont (v235, gb237) _ ⟨hHeld, (Kd.R_mono (zs HO236 BK237).out (fun _ hk => trivial)), (Kd.R_mono (zs HO_221000 BK237).out (fun _ hk => trivial)), (zf BK215 NB215_237).out, (zf BK220 NB220_237).out, (zf BK231 NB231_237).out, (zp BK237), GW237.out, GE237.out, NB215_237.out, NB237_215.out, NB220_237.out, NB237_220.out, NB231_237.out, NB237_231.out, zbo⟩)
 rintro ⟨v235, gb237⟩ w77 ⟨hS_, h0_, h1_, h2_, h3_, h4_, h5_, h6_, h7_, h8_, h9_, h10_, h11_, h12_, h13_, h14_⟩
 have n_ : (Aside0 (Kd.R (Kd.int .i16) 54 w77 w.heap.size (fun _ => True) v235 y234)) ∧ (Aside0 (Kd.R Kd.bool 4 w77 w.heap.size (fun _ => True) u221000 x221000_2)) ∧ (Aside0 (w77.heap[gb215]? = some (.cells #[.int .i8 0, .slice none 0 0, .slice none 0 0] 29 (0, 0)))) ∧ (Aside0 (w77.heap[gb220]? = some (.cells #[u221000] 89 (0, 0)))) ∧ (Aside0 (w77.heap[gb231]? = some (.deferred (some [])))) ∧ (Aside0 (w77.heap[gb237]? = some (.cells #[.int .i8 ((rd_T29 l0 0).f0), .slice none 0 0, .slice none 0 0] 29 (0, 0)))) ∧ (Aside0 (w.heap.size ≤ gb237)) ∧ (Aside0 (w.heap.size ≤ gb237)) ∧ (Aside0 (gb215 ≠ gb237)) ∧ (Aside0 (gb237 ≠ gb215)) ∧ (Aside0 (gb220 ≠ gb237)) ∧ (Aside0 (gb237 ≠ gb220)) ∧ (Aside0 (gb231 ≠ gb237)) ∧ (Aside0 (gb237 ≠ gb231)) ∧ (Aside0 (Below w.heap.size w w77)) := ⟨⟨h0_⟩, ⟨h1_⟩, ⟨h2_⟩, ⟨h3_⟩, ⟨h4_⟩, ⟨h5_⟩, ⟨h6_⟩, ⟨h7_⟩, ⟨h8_⟩, ⟨h9_⟩, ⟨h10_⟩, ⟨h11_⟩, ⟨h12_⟩, ⟨h13_⟩, ⟨h14_⟩⟩
 clear HO_221000 BK215 BK220 BK231 HB h0_ h1_ h2_ h3_ h4_ h5_ h6_ h7_ h8_ h9_ h10_ h11_ h12_ h13_ h14_
 obtain ⟨HO236, HO_221000, BK215, BK220, BK231, BK237, GW237, GE237, NB215_237, NB237_215, NB220_237, NB237_220, NB231_237, NB237_231, HB⟩ := n_
 have hHeld := hS_
 refine norm_ (a' := ?_) ?_ ?_
 rotate_left
 ·simp only [putAll, Act.put, List.setIfInBounds_toArray, List.set_cons_zero, List.set_cons_succ]
  rfl
 refine zpu 13 (some 9) (zq 14 16383) HT_ ?_
 refine done_ (done_of HT_.out (by kernel_rfl)) ?_
 clear hHeld hS_
 have p238 : 0 ≤ (0 : Int) := (by omega)
 have q238 : 0 < (l0.length : Int) := of_decide_eq_true zA
 obtain ⟨ad238, A238_1, c238_1, A238_2, c238_2, e238, hx238_0, hx238_1, hx238_2, hl238_1, hi238_1, hl238_2, hi238_2⟩ := at_T29 HR0.out 0 p238 q238
 obtain rfl : adp0 = ad238 := (by injection e238)
 have qi238 : (0 < l0.length) = True := eq_true (by omega)
 try simp only [z00, Nat.zero_mul, Addr.add_zero'] at hx238_0 hx238_1 hx238_2
 replace hx238_0 := zc HB hx238_0
 replace hx238_1 := zc HB hx238_1
 replace hx238_2 := zc HB hx238_2
 have HR238_1 := Aside0.mk hi238_1
 have HC238_1 := Aside0.mk hl238_1
 clear hi238_1 hl238_1
 have HR238_2 := Aside0.mk hi238_2
 have HC238_2 := Aside0.mk hl238_2
 clear hi238_2 hl238_2
 replace p238 := eq_true p238
 replace q238 := eq_true q238
 try go_wp2
 go_loopg [70] k2 (fun kq v70 w' => ∃ (x9_3 : List Int) (x70_3 : Int) (x238001_3 : List (S61)) (u238001 : Value), v70 = .int .i64 x70_3 ∧ Aside0 (impl_Network_trimmed.l2 kq l0 x9_3 ((rd_T29 l0 0).f1) (((rd_T29 l0 0).f1).length : Int) x70_3 x221000_2 ((rd_T29 l0 0).f0) x238001_3 = some (r1, r2, r3)) ∧ Aside0 (kq ≤ k2) ∧ Aside0 (Kd.R (Kd.int .i16) 54 w' w.heap.size (fun _ => True) v235 x9_3) ∧ Aside0 (Kd.R Kd.bool 4 w' w.heap.size (fun _ => True) u221000 x221000_2) ∧ Aside0 (Kd.R k61 61 w' w.heap.size (fun _ => True) u238001 x238001_3) ∧ Aside0 (w'.heap[gb215]? = some (.cells #[.int .i8 0, (.slice none 0 0), (.slice none 0 0)] 29 (0, 0))) ∧ Aside0 (w'.heap[gb220]? = some (.cells #[u221000] 89 (0, 0))) ∧ Aside0 (w'.heap[gb231]? = some (.deferred (some []))) ∧ Aside0 (w'.heap[gb237]? = some (.cells #[.int .i8 ((rd_T29 l0 0).f0), u238001, (.slice none 0 0)] 29 (0, 0))) ∧ Aside0 (Below w.heap.size w w'))
 case atStart => exact ⟨(y234), (0), (([] : List (S61))), (.slice none 0 0), zi, H', ⟨Nat.le_refl _⟩, ze HO236, ze HO_221000, ⟨by first | exact Kd.R_nil _ _ _ _ _ | exact Kd.N_nil _ _ _ _ _ | exact Kd.V_nil _ _ _ _ _ | exact Kd.Q_nil _ _ _ _ _ | exact Kd.S_nil _ _ _ _ _⟩, zh BK215, zh BK220, zh BK231, zh BK237, zba⟩
 clear H'
 try clear c2
 try clear p2
 try clear q2
 try clear hx2
 try clear qi2
 try clear c6
 try clear p6
 try clear p22
 try clear q22
 try clear hx22
 try clear c23
 try clear c23b0
 try clear p23
 try clear q23
 try clear hx23
 try clear qi23
 try clear c24
 try clear c25
 try clear c26
 try clear q27
 try clear c60
 try clear c61
 try clear c63
 try clear p64
 try clear c66
 try clear c66b0
 try clear c66b1
 try clear c67
 try clear c67b0
 try clear c67b1
 try clear c68
 try clear c68b0
 try clear c68b1
 try clear z62_0 z62_1 z62_2
 try clear z64_0
 try clear y62_0
 try clear y62_1
 try clear y62_2
 try clear y64_0
 try clear hx225_0
 try clear hx225_1
 try clear hx225_2
 try clear hx227_0
 try clear hx232_0
 try clear hx232_1
 try clear hx232_2
 try clear hx233_0
 try clear hx233_1
 try clear hx233_2
 try clear hx238_0
 try clear hx238_1
 try clear hx238_2
 try clear p225
 try clear p227
 try clear p232
 try clear p233
 try clear p238
 try clear q225
 try clear q227
 try clear q232
 try clear q233
 try clear q238
 obtain ⟨x9_3, x70_3, x238001_3, u238001, rfl, HA, HK3, HO_9, HO_221000, HO_238001, BK215, BK220, BK231, BK237, HB⟩ := hrel
 cases gk with
 | zero => exact absurd HA.out (by simp [impl_Network_trimmed.l2])
 | succ k3 => ?_
 have H := HA.out
 clear HA
 simp only [impl_Network_trimmed.l2] at H
 by_cases c78 : x70_3 < (((rd_T29 l0 0).f1).length : Int)
 rotate_left
 ·rw [if_neg c78] at H
  have c78b0 : decide (x70_3 < (((rd_T29 l0 0).f1).length : Int)) = false := decide_eq_false c78
  clear c78
  by_cases c122 : 0 < (l0.length : Int)
  rotate_left
  ·rw [if_neg c122] at H
   exact absurd H (by simp)
  rw [if_pos c122] at H
  have c122b0 : decide (0 < (l0.length : Int)) = true := decide_eq_true c122
  have c122b1 : decide (0 < l0.length) = true := decide_eq_true (by omega)
  clear c122
  replace H := zob H
  obtain ⟨t250, A1230, H⟩ := H
  replace H : (some (((rd_T29 l0 0).f0), x238001_3, t250)) = some (r1, r2, r3) := H
  have A123 := Aside0.mk A1230
  clear A1230
  simp only [Option.some.injEq, Prod.mk.injEq] at H
  obtain ⟨rfl, rfl, rfl⟩ := H
  have p249 : 0 ≤ (0 : Int) := (by omega)
  have q249 : 0 < (l0.length : Int) := of_decide_eq_true zA
  obtain ⟨ad249, A249_1, c249_1, A249_2, c249_2, e249, hx249_0, hx249_1, hx249_2, hl249_1, hi249_1, hl249_2, hi249_2⟩ := at_T29 HR0.out 0 p249 q249
  obtain rfl : adp0 = ad249 := (by injection e249)
  have qi249 : (0 < l0.length) = True := eq_true (by omega)
  try simp only [z00, Nat.zero_mul, Addr.add_zero'] at hx249_0 hx249_1 hx249_2
  replace hx249_0 := zc HB hx249_0
  replace hx249_1 := zc HB hx249_1
  replace hx249_2 := zc HB hx249_2
  have HR249_1 := Aside0.mk hi249_1
  have HC249_1 := Aside0.mk hl249_1
  clear hi249_1 hl249_1
  have HR249_2 := Aside0.mk hi249_2
  have HC249_2 := Aside0.mk hl249_2
  clear hi249_2 hl249_2
  replace p249 := eq_true p249
  replace q249 := eq_true q249
  obtain ⟨Ao124, co124, eo124⟩ := Kd.R_slice HO_9.out
  subst eo124
  go_wp2_with (first | ((with_reducible refine gate_callee (f := 53) rfl ?_); refine goesL_ (some 100) rfl rfl Try.func53 (by kernel_rfl) rfl #[.slice A249_2 ((rd_T29 l0 0).f2).length c249_2, .slice Ao124 x9_3.length co124] rfl zm ?_; (with_reducible refine (impl_renamedAll.calls k3 _ _ ((rd_T29 l0 0).f2) _ _ x9_3 t250 _ ?side1 ?side2 ?side3 ?side4 A123.out).mono ?_); (case side1 => exact zcc HB HR249_2.out); (case side2 => exact HC249_2.out); (case side3 => exact zrc HO_9); (case side4 => exact (Kd.R_reads' HO_9.out).2.1); rintro e w125 ⟨v251, rfl, ho0, hb⟩; refine ⟨_, rfl, ?_⟩; have n_ : _ ∧ _ ∧ _ ∧ _ ∧ _ ∧ _ ∧ _ ∧ _ ∧ _ := ⟨Aside0.mk (Kd.R_elder' (ze HO_9).out (Kd.R_base ho0) hb), zr HO_221000 hb, zr HO_238001 hb, Aside0.mk (Kd.R_lower (Kd.R_new' ho0 (Kd.R_lt (ze HO_9).out)) (zz HB)), zk BK215 hb, zk BK220 hb, zk BK231 hb, zk BK237 hb, zbs hb⟩; clear HO_9 HO_221000 HO_238001 BK215 BK220 BK231 BK237 HB; obtain ⟨HO_9, HO_221000, HO_238001, HO252, BK215, BK220, BK231, BK237, HB⟩ := n_; (try clear hb); (try clear hb2); (try clear hk); (try clear hi); (try clear ho0); obtain ⟨Ao126, co126, eo126⟩ := Kd.R_slice HO252.out; subst eo126; have hnb127 := NB237_215.out; have hnc127 := NB215_237.out; have hnb128 := NB237_220.out; have hnc128 := NB220_237.out; have hnb129 := NB237_231.out; have hnc129 := NB231_237.out; obtain ⟨z130_0, z130_1, z130_2, y130_0, y130_1, y130_2⟩ := zB3 BK237; have hnb131 := NB231_215.out; have hnc131 := NB215_231.out; have hnb132 := NB231_220.out; have hnc132 := NB220_231.out; have hnb134 := NB215_220.out; have hnc134 := NB220_215.out; obtain ⟨z135_0, z135_1, z135_2, y135_0, y135_1, y135_2⟩ := zB3 BK215; obtain ⟨Ao136, co136, eo136⟩ := Kd.R_slice HO_238001.out; subst eo136))
  refine leaves_ gb231 rfl (by (with_reducible repeat (first | refine blk_drewN ?_ _ | refine blk_drew ?_ | refine blk_alloc ?_ _ | refine far_ ?_ NB231_215.out _ | refine far_ ?_ NB231_237.out _)); exact BK231.out) ?_
  intro W_ hC_ hR_ hB_
  refine ⟨_, results_cell_row rfl _ _ gb215 29 #[.int .i8 ((rd_T29 l0 0).f0), .slice Ao136 x238001_3.length co136, .slice Ao126 t250.length co126] (0, 0) _ rfl (hC_ _ _ NB215_231.out (by (with_reducible repeat (first | refine blk_drewN ?_ _ | refine blk_drew ?_ | refine blk_alloc ?_ _)); refine blk_put (cs := #[.int .i8 ((rd_T29 l0 0).f0), .slice Ao136 x238001_3.length co136, .slice none 0 0]) ?_ 2 _ rfl; (with_reducible repeat (first | refine blk_drewN ?_ _ | refine blk_drew ?_ | refine blk_alloc ?_ _)); refine blk_put (cs := #[.int .i8 ((rd_T29 l0 0).f0), .slice none 0 0, .slice none 0 0]) ?_ 1 _ rfl; (with_reducible repeat (first | refine blk_drewN ?_ _ | refine blk_drew ?_ | refine blk_alloc ?_ _)); refine blk_put (cs := #[.int .i8 0, .slice none 0 0, .slice none 0 0]) ?_ 0 _ rfl; (with_reducible repeat (first | refine blk_drewN ?_ _ | refine blk_drew ?_ | refine blk_alloc ?_ _)); refine blk_far ?_ NB215_237.out _; (with_reducible repeat (first | refine blk_drewN ?_ _ | refine blk_drew ?_ | refine blk_alloc ?_ _)); exact BK215.out)) Try.underlying29 rfl (by kernel_rfl), ?_⟩
  exact ⟨_, _, zv, hR_ _ _ _ _ _ _ (by (with_reducible repeat (first | apply Kd.R_alloc | apply Kd.R_drewN | apply Kd.R_drew)); exact Kd.R_mono (Kd.R_far (p := ⟨gb215, 2, none⟩) (Kd.R_far (p := ⟨gb215, 1, none⟩) (Kd.R_far (p := ⟨gb215, 0, none⟩) (Kd.R_far (p := ⟨gb237, 2, none⟩) (Kd.R_types (Kd.R_types HO_238001.out BK237.out (by decide)) BK215.out (by decide)) (fun _ hk => hk.1.2) (.slice Ao126 t250.length co126)) (fun _ hk => hk.2) (.int .i8 ((rd_T29 l0 0).f0))) (fun _ hk => hk.2) (.slice Ao136 x238001_3.length co136)) (fun _ hk => hk.2) (.slice Ao126 t250.length co126)) (fun _ hk => trivial)), hR_ _ _ _ _ _ _ (by (with_reducible repeat (first | apply Kd.R_alloc | apply Kd.R_drewN | apply Kd.R_drew)); exact Kd.R_mono (Kd.R_far (p := ⟨gb215, 2, none⟩) (Kd.R_far (p := ⟨gb215, 1, none⟩) (Kd.R_far (p := ⟨gb215, 0, none⟩) (Kd.R_far (p := ⟨gb237, 2, none⟩) (Kd.R_types (Kd.R_types HO252.out BK237.out (by decide)) BK215.out (by decide)) (fun _ hk => hk.1.2) (.slice Ao126 t250.length co126)) (fun _ hk => hk.2) (.int .i8 ((rd_T29 l0 0).f0))) (fun _ hk => hk.2) (.slice Ao136 x238001_3.length co136)) (fun _ hk => hk.2) (.slice Ao126 t250.length co126)) (fun _ hk => trivial)), hB_ w GE231.out zbo⟩
 rw [if_pos c78] at H
 have c78b0 : decide (x70_3 < (((rd_T29 l0 0).f1).length : Int)) = true := decide_eq_true c78
 clear c78
 by_cases c79 : 0 ≤ x70_3
 rotate_left
 ·rw [if_neg c79] at H
  exact absurd H (by simp)
 rw [if_pos c79] at H
 have c79b0 : decide (0 ≤ x70_3) = true := decide_eq_true c79
 clear c79
 by_cases c80 : x70_3 < (((rd_T29 l0 0).f1).length : Int)
 rotate_left
 ·rw [if_neg c80] at H
  exact absurd H (by simp)
 rw [if_pos c80] at H
 have c80b0 : decide (x70_3 < (((rd_T29 l0 0).f1).length : Int)) = true := decide_eq_true c80
 clear c80
 by_cases c81 : x70_3 < (x221000_2.length : Int)
 rotate_left
 ·rw [if_neg c81] at H
  exact absurd H (by simp)
 rw [if_pos c81] at H
 have c81b0 : decide (x70_3 < (x221000_2.length : Int)) = true := decide_eq_true c81
 clear c81
 obtain ⟨bq82, hbq82⟩ : ∃ b_ : Bool, b_ = (rdOf false x221000_2 x70_3) := ⟨_, rfl⟩
 replace H : (if bq82 = true then (if x70_3 < (x9_3.length : Int) then ((some (x9_3.set (x70_3 : Int).toNat (IntKind.i16.wrap ((x238001_3.length : Int))) : List Int)).bind fun y242 => ((impl_Node_renamed.f ((rd_T61 ((rd_T29 l0 0).f1) x70_3).f0) ((rd_T61 ((rd_T29 l0 0).f1) x70_3).f1) ((rd_T61 ((rd_T29 l0 0).f1) x70_3).f2) y242).bind fun bt243 => (if x238001_3.length < 23456248059221 then (impl_Network_trimmed.l2 k3 l0 y242 ((rd_T29 l0 0).f1) (((rd_T29 l0 0).f1).length : Int) (wrap64 (x70_3 + 1)) x221000_2 ((rd_T29 l0 0).f0) (x238001_3 ++ [(⟨bt243.1, bt243.2.1, bt243.2.2⟩ : S61)])) else (none)))) else (none)) else (impl_Network_trimmed.l2 k3 l0 x9_3 ((rd_T29 l0 0).f1) (((rd_T29 l0 0).f1).length : Int) (wrap64 (x70_3 + 1)) x221000_2 ((rd_T29 l0 0).f0) x238001_3)) = some (r1, r2, r3) := by rw [← hbq82] at H; exact H
 have Nbq82 := Aside0.mk hbq82
 clear hbq82
 by_cases c83 : bq82 = true
 rotate_left
 ·replace c83 := Bool.eq_false_iff.mpr c83
  subst c83
  have H1 : (impl_Network_trimmed.l2 k3 l0 x9_3 ((rd_T29 l0 0).f1) (((rd_T29 l0 0).f1).length : Int) (wrap64 (x70_3 + 1)) x221000_2 ((rd_T29 l0 0).f0) x238001_3) = some (r1, r2, r3) := by rw [if_neg (show ¬ (false = true) by decide)] at H; exact H
  clear H
  have H := H1
  clear H1
  have H' := Aside0.mk H
  clear H
  have p239 : 0 ≤ (x70_3 : Int) := of_decide_eq_true zA
  have q239 : x70_3 < (((rd_T29 l0 0).f1).length : Int) := of_decide_eq_true zA
  obtain ⟨ad239, e239, hx239_0, hx239_1, hx239_2⟩ := at_T61 HR238_1.out x70_3 p239 q239
  cases e239
  replace hx239_0 := zc HB hx239_0
  replace hx239_1 := zc HB hx239_1
  replace hx239_2 := zc HB hx239_2
  replace p239 := eq_true p239
  replace q239 := eq_true q239
  go_wp2_with (first | ((with_reducible refine gate_dst (N := 11) rfl ?_); refine zbx 11 #[.int .i8 0, .int .i16 0, .int .i16 0] 61 ?_; intro gb240 hg w111 hbox hb; have n_ : _ ∧ _ ∧ _ ∧ _ ∧ _ ∧ _ ∧ _ ∧ _ ∧ _ ∧ _ ∧ _ ∧ _ ∧ _ ∧ _ ∧ _ ∧ _ ∧ _ ∧ _ ∧ _ := ⟨zr HO_9 hb, zr HO_221000 hb, Aside0.mk (Kd.R_below (Kd.R_elderB (ze HO_238001).out gb240 (Nat.le_of_eq hg.symm)) hb), zk BK215 hb, zk BK220 hb, zk BK231 hb, zk BK237 hb, zbs hb, Aside0.mk (hbox), zg HB hg, zg HB hg, zn1 BK215 hg, zn2 BK215 hg, zn1 BK220 hg, zn2 BK220 hg, zn1 BK231 hg, zn2 BK231 hg, zn1 BK237 hg, zn2 BK237 hg⟩; clear HO_9 HO_221000 HO_238001 BK215 BK220 BK231 BK237 HB; obtain ⟨HO_9, HO_221000, HO_238001, BK215, BK220, BK231, BK237, HB, BK240, GW240, GE240, NB215_240, NB240_215, NB220_240, NB240_220, NB231_240, NB240_231, NB237_240, NB240_237⟩ := n_; clear hb hbox hg; have hnb112 := NB240_215.out; have hnc112 := NB215_240.out; have hnb113 := NB240_220.out; have hnc113 := NB220_240.out; have hnb114 := NB240_231.out; have hnc114 := NB231_240.out; have hnb115 := NB240_237.out; have hnc115 := NB237_240.out; obtain ⟨z116_0, z116_1, z116_2, y116_0, y116_1, y116_2⟩ := zB3 BK240; have hnb117 := NB220_215.out; have hnc117 := NB215_220.out; have hnb118 := NB220_231.out; have hnc118 := NB231_220.out; have hnb119 := NB220_237.out; have hnc119 := NB237_220.out; obtain ⟨z120_0, y120_0⟩ := zB1 BK220; obtain ⟨Ao121, co121, eo121⟩ := Kd.R_slice HO_221000.out; subst eo121; have p241 : 0 ≤ (x70_3 : Int) := of_decide_eq_true zA; have q241 : x70_3 < (x221000_2.length : Int) := of_decide_eq_true zA; obtain ⟨ad241, e241, hx241_0⟩ := Kd.at_bool (Kd.R_reads' HO_221000.out).2.2 x70_3 p241 q241; (try rw [← Nbq82.out] at hx241_0); cases e241; have hn241_0 : ad241.block ≠ gb240 := Kd.own_blk (Kd.R_ne HO_221000.out BK240.out (by decide)); have hn241_1 : ad241.block ≠ gb240 := Kd.own_blk (Kd.R_ne HO_221000.out BK240.out (by decide)); have hn241_2 : ad241.block ≠ gb240 := Kd.own_blk (Kd.R_ne HO_221000.out BK240.out (by decide)); replace hx241_0 := (cell_far (p := ⟨gb240, 0, none⟩) (by first | (rw [add_block]; exact hn241_0) | (show (Addr.add _ _).block ≠ _; rw [add_block]; exact hn241_0) | exact hn241_0) (.int .i8 ((rd_T61 ((rd_T29 l0 0).f1) x70_3).f0))).trans hx241_0; replace hx241_0 := (cell_far (p := ⟨gb240, 1, none⟩) (by first | (rw [add_block]; exact hn241_1) | (show (Addr.add _ _).block ≠ _; rw [add_block]; exact hn241_1) | exact hn241_1) (.int .i16 ((rd_T61 ((rd_T29 l0 0).f1) x70_3).f1))).trans hx241_0; replace hx241_0 := (cell_far (p := ⟨gb240, 2, none⟩) (by first | (rw [add_block]; exact hn241_2) | (show (Addr.add _ _).block ≠ _; rw [add_block]; exact hn241_2) | exact hn241_2) (.int .i16 ((rd_T61 ((rd_T29 l0 0).f1) x70_3).f2))).trans hx241_0; clear hn241_0; clear hn241_1; clear hn241_2; replace p241 := eq_true p241; replace q241 := eq_true q241))
  go_roundg k3
  case measure => have := HK1.out; have := HK2.out; have := HK3.out; omega
  case rel => exact ⟨(x9_3), (wrap64 (x70_3 + 1)), (x238001_3), (u238001), zi, H', ⟨by have := HK1.out; have := HK2.out; have := HK3.out; omega⟩, ⟨Kd.R_mono (zs HO_9 BK240).out (fun _ hk => trivial)⟩, ⟨Kd.R_mono (zs HO_221000 BK240).out (fun _ hk => trivial)⟩, ⟨by (with_reducible repeat (first | apply Kd.R_alloc | apply Kd.R_drewN | apply Kd.R_drew)); exact Kd.R_mono (Kd.R_far (p := ⟨gb240, 2, none⟩) (Kd.R_far (p := ⟨gb240, 1, none⟩) (Kd.R_far (p := ⟨gb240, 0, none⟩) (Kd.R_mono HO_238001.out (fun k_ hk => (⟨hk, hk.2⟩ : _ ∧ k_ ≠ gb240))) (fun _ hk => hk.2) (.int .i8 ((rd_T61 ((rd_T29 l0 0).f1) x70_3).f0))) (fun _ hk => hk.2) (.int .i16 ((rd_T61 ((rd_T29 l0 0).f1) x70_3).f1))) (fun _ hk => hk.2) (.int .i16 ((rd_T61 ((rd_T29 l0 0).f1) x70_3).f2))) (fun _ hk => trivial)⟩, zf BK215 NB215_240, zf BK220 NB220_240, zf BK231 NB231_240, zf BK237 NB237_240, zba⟩
 subst c83
 have H1 : (if x70_3 < (x9_3.length : Int) then ((some (x9_3.set (x70_3 : Int).toNat (IntKind.i16.wrap ((x238001_3.length : Int))) : List Int)).bind fun y242 => ((impl_Node_renamed.f ((rd_T61 ((rd_T29 l0 0).f1) x70_3).f0) ((rd_T61 ((rd_T29 l0 0).f1) x70_3).f1) ((rd_T61 ((rd_T29 l0 0).f1) x70_3).f2) y242).bind fun bt243 => (if x238001_3.length < 23456248059221 then (impl_Network_trimmed.l2 k3 l0 y242 ((rd_T29 l0 0).f1) (((rd_T29 l0 0).f1).length : Int) (wrap64 (x70_3 + 1)) x221000_2 ((rd_T29 l0 0).f0) (x238001_3 ++ [(⟨bt243.1, bt243.2.1, bt243.2.2⟩ : S61)])) else (none)))) else (none)) = some (r1, r2, r3) := by rw [if_pos rfl] at H; exact H
 clear H
 have H := H1
 clear H1
 by_cases c84 : x70_3 < (x9_3.length : Int)
 rotate_left
 ·rw [if_neg c84] at H
  exact absurd H (by simp)
 rw [if_pos c84] at H
 have c84b0 : decide (x70_3 < (x9_3.length : Int)) = true := decide_eq_true c84
 clear c84
 obtain ⟨y242, hy242⟩ : ∃ y_ : List Int, y_ = (x9_3.set (x70_3 : Int).toNat (IntKind.i16.wrap ((x238001_3.length : Int)))) := ⟨_, rfl⟩
 replace H : ((impl_Node_renamed.f ((rd_T61 ((rd_T29 l0 0).f1) x70_3).f0) ((rd_T61 ((rd_T29 l0 0).f1) x70_3).f1) ((rd_T61 ((rd_T29 l0 0).f1) x70_3).f2) y242).bind fun bt243 => (if x238001_3.length < 23456248059221 then (impl_Network_trimmed.l2 k3 l0 y242 ((rd_T29 l0 0).f1) (((rd_T29 l0 0).f1).length : Int) (wrap64 (x70_3 + 1)) x221000_2 ((rd_T29 l0 0).f0) (x238001_3 ++ [(⟨bt243.1, bt243.2.1, bt243.2.2⟩ : S61)])) else (none))) = some (r1, r2, r3) := by first | (rw [hy242]; with_reducible exact H) | (have H2_ := (Option.bind_some _ _).symm.trans H; rw [hy242]; with_reducible exact H2_) | (have H2_ := (Option.bind_some _ _).symm.trans H; with_reducible exact H2_) | with_reducible exact H | (rw [hy242]; exact H) | exact H
 have Ny242 := Aside0.mk hy242
 clear hy242
 replace H := zob H
 obtain ⟨⟨t243, t244, t245⟩, A860, H⟩ := H
 replace H : (if x238001_3.length < 23456248059221 then (impl_Network_trimmed.l2 k3 l0 y242 ((rd_T29 l0 0).f1) (((rd_T29 l0 0).f1).length : Int) (wrap64 (x70_3 + 1)) x221000_2 ((rd_T29 l0 0).f0) (x238001_3 ++ [(⟨t243, t244, t245⟩ : S61)])) else (none)) = some (r1, r2, r3) := H
 have A86 := Aside0.mk A860
 clear A860
 by_cases c87 : x238001_3.length < 23456248059221
 rotate_left
 ·rw [if_neg c87] at H
  exact absurd H (by simp)
 rw [if_pos c87] at H
 have LMc87 := Aside0.mk c87
 clear c87
 obtain ⟨y246, hy246⟩ : ∃ y_ : List (S61), y_ = (x238001_3 ++ [(⟨t243, t244, t245⟩ : S61)]) := ⟨_, rfl⟩
 replace H : (impl_Network_trimmed.l2 k3 l0 y242 ((rd_T29 l0 0).f1) (((rd_T29 l0 0).f1).length : Int) (wrap64 (x70_3 + 1)) x221000_2 ((rd_T29 l0 0).f0) y246) = some (r1, r2, r3) := by first | (rw [hy246]; with_reducible exact H) | (have H2_ := (Option.bind_some _ _).symm.trans H; rw [hy246]; with_reducible exact H2_) | (have H2_ := (Option.bind_some _ _).symm.trans H; with_reducible exact H2_) | with_reducible exact H | (rw [hy246]; exact H) | exact H
 have Ny246 := Aside0.mk hy246
 clear hy246
 have H' := Aside0.mk H
 clear H
 have p239 : 0 ≤ (x70_3 : Int) := of_decide_eq_true zA
 have q239 : x70_3 < (((rd_T29 l0 0).f1).length : Int) := of_decide_eq_true zA
 obtain ⟨ad239, e239, hx239_0, hx239_1, hx239_2⟩ := at_T61 HR238_1.out x70_3 p239 q239
 cases e239
 replace hx239_0 := zc HB hx239_0
 replace hx239_1 := zc HB hx239_1
 replace hx239_2 := zc HB hx239_2
 replace p239 := eq_true p239
 replace q239 := eq_true q239
 try go_wp2_with (first | ((with_reducible refine gate_dst (N := 11) rfl ?_); refine zbx 11 #[.int .i8 0, .int .i16 0, .int .i16 0] 61 ?_; intro gb240 hg w88 hbox hb; have n_ : _ ∧ _ ∧ _ ∧ _ ∧ _ ∧ _ ∧ _ ∧ _ ∧ _ ∧ _ ∧ _ ∧ _ ∧ _ ∧ _ ∧ _ ∧ _ ∧ _ ∧ _ ∧ _ := ⟨zr HO_9 hb, zr HO_221000 hb, Aside0.mk (Kd.R_below (Kd.R_elderB (ze HO_238001).out gb240 (Nat.le_of_eq hg.symm)) hb), zk BK215 hb, zk BK220 hb, zk BK231 hb, zk BK237 hb, zbs hb, Aside0.mk (hbox), zg HB hg, zg HB hg, zn1 BK215 hg, zn2 BK215 hg, zn1 BK220 hg, zn2 BK220 hg, zn1 BK231 hg, zn2 BK231 hg, zn1 BK237 hg, zn2 BK237 hg⟩; clear HO_9 HO_221000 HO_238001 BK215 BK220 BK231 BK237 HB; obtain ⟨HO_9, HO_221000, HO_238001, BK215, BK220, BK231, BK237, HB, BK240, GW240, GE240, NB215_240, NB240_215, NB220_240, NB240_220, NB231_240, NB240_231, NB237_240, NB240_237⟩ := n_; clear hb hbox hg; have hnb89 := NB240_215.out; have hnc89 := NB215_240.out; have hnb90 := NB240_220.out; have hnc90 := NB220_240.out; have hnb91 := NB240_231.out; have hnc91 := NB231_240.out; have hnb92 := NB240_237.out; have hnc92 := NB237_240.out; obtain ⟨z93_0, z93_1, z93_2, y93_0, y93_1, y93_2⟩ := zB3 BK240) | ((with_reducible refine gate_store (t := 61) (p := 11) rfl ?_); refine store_event (t := 61) (p := 11) (v := ?vo_w94) (w1 := (((w88.setCell ⟨gb240, 0, none⟩ (.int .i8 ((rd_T61 ((rd_T29 l0 0).f1) x70_3).f0))).setCell ⟨gb240, 1, none⟩ (.int .i16 ((rd_T61 ((rd_T29 l0 0).f1) x70_3).f1))).setCell ⟨gb240, 2, none⟩ (.int .i16 ((rd_T61 ((rd_T29 l0 0).f1) x70_3).f2)))) ?hg ?ho ?hn ?hr ?_; (case ho => rfl); (case hg => rfl); (case hn => rfl); (case hr => exact zgs); intro w94 hw; have n0_ : Aside0 (Kd.R (Kd.int .i16) 54 w94 w.heap.size (fun _ => True) v235 x9_3) := ⟨(by rw [hw]; exact (Kd.R_mono (zs HO_9 BK240).out (fun _ hk => trivial)))⟩; have n1_ : Aside0 (Kd.R Kd.bool 4 w94 w.heap.size (fun _ => True) u221000 x221000_2) := ⟨(by rw [hw]; exact (Kd.R_mono (zs HO_221000 BK240).out (fun _ hk => trivial)))⟩; have n2_ : Aside0 (Kd.R k61 61 w94 w.heap.size (fun k_ => k_ ≠ gb240) u238001 x238001_3) := ⟨(by rw [hw]; exact (by (with_reducible repeat (first | apply Kd.R_alloc | apply Kd.R_drewN | apply Kd.R_drew)); exact Kd.R_mono (Kd.R_far (p := ⟨gb240, 2, none⟩) (Kd.R_far (p := ⟨gb240, 1, none⟩) (Kd.R_far (p := ⟨gb240, 0, none⟩) (Kd.R_mono HO_238001.out (fun k_ hk => (⟨hk, hk.2⟩ : _ ∧ k_ ≠ gb240))) (fun _ hk => hk.2) (.int .i8 ((rd_T61 ((rd_T29 l0 0).f1) x70_3).f0))) (fun _ hk => hk.2) (.int .i16 ((rd_T61 ((rd_T29 l0 0).f1) x70_3).f1))) (fun _ hk => hk.2) (.int .i16 ((rd_T61 ((rd_T29 l0 0).f1) x70_3).f2))) (fun _ hk => hk.1.2)))⟩; have n3_ : Aside0 (w94.heap[gb215]? = some (.cells #[.int .i8 0, .slice none 0 0, .slice none 0 0] 29 (0, 0))) := ⟨(by rw [hw]; exact (zf BK215 NB215_240).out)⟩; have n4_ : Aside0 (w94.heap[gb220]? = some (.cells #[u221000] 89 (0, 0))) := ⟨(by rw [hw]; exact (zf BK220 NB220_240).out)⟩; have n5_ : Aside0 (w94.heap[gb231]? = some (.deferred (some []))) := ⟨(by rw [hw]; exact (zf BK231 NB231_240).out)⟩; have n6_ : Aside0 (w94.heap[gb237]? = some (.cells #[.int .i8 ((rd_T29 l0 0).f0), u238001, .slice none 0 0] 29 (0, 0))) := ⟨(by rw [hw]; exact (zf BK237 NB237_240).out)⟩; have n7_ : Aside0 (w94.heap[gb240]? = some (.cells #[.int .i8 ((rd_T61 ((rd_T29 l0 0).f1) x70_3).f0), .int .i16 ((rd_T61 ((rd_T29 l0 0).f1) x70_3).f1), .int .i16 ((rd_T61 ((rd_T29 l0 0).f1) x70_3).f2)] 61 (0, 0))) := ⟨(by rw [hw]; exact (zp BK240))⟩; have n8_ : Aside0 (Below w.heap.size w w94) := ⟨(by rw [hw]; exact zbo)⟩; clear hw; clear HO_9; clear HO_221000; clear HO_238001; clear BK215; clear BK220; clear BK231; clear BK237; clear BK240; clear HB; have HO_9 := n0_; have HO_221000 := n1_; have HO_238001 := n2_; have BK215 := n3_; have BK220 := n4_; have BK231 := n5_; have BK237 := n6_; have BK240 := n7_; have HB := n8_; clear n0_ n1_ n2_ n3_ n4_ n5_ n6_ n7_ n8_; have hnb95 := NB220_215.out; have hnc95 := NB215_220.out; have hnb96 := NB220_231.out; have hnc96 := NB231_220.out; have hnb97 := NB220_237.out; have hnc97 := NB237_220.out; obtain ⟨z98_0, y98_0⟩ := zB1 BK220; obtain ⟨Ao99, co99, eo99⟩ := Kd.R_slice HO_221000.out; subst eo99; have p241 : 0 ≤ (x70_3 : Int) := of_decide_eq_true zA; have q241 : x70_3 < (x221000_2.length : Int) := of_decide_eq_true zA; obtain ⟨ad241, e241, hx241_0⟩ := Kd.at_bool (Kd.R_reads' HO_221000.out).2.2 x70_3 p241 q241; (try rw [← Nbq82.out] at hx241_0); cases e241; replace p241 := eq_true p241; replace q241 := eq_true q241; have hnb100 := NB237_215.out; have hnc100 := NB215_237.out; have hnb101 := NB237_231.out; have hnc101 := NB231_237.out; obtain ⟨z102_0, z102_1, z102_2, y102_0, y102_1, y102_2⟩ := zB3 BK237; obtain ⟨Ao103, co103, eo103⟩ := Kd.R_slice HO_238001.out; subst eo103; have p85 : 0 ≤ (x70_3 : Int) := of_decide_eq_true zA; have q85 : (x70_3 : Int) < ((x9_3.length : Int) : Int) := of_decide_eq_true zA; obtain ⟨go85, co85, eo85, gb85, gl85, cl85, HG85⟩ := Kd.R_form HO_9.out (by omega); (first | cases eo85 | (injection eo85 with ea_ en_ ec_; (first | subst ea_ | (injection ea_ with ea_; subst ea_)); subst ec_; clear en_)); have GB85 := Aside0.mk gb85; have GG85 := Aside0.mk HG85; clear gb85 gl85 HG85; obtain ⟨hx85_0, hf85_0⟩ := Kd.R_celln 0 HO_9.out (x70_3 : Int) p85 q85; replace p85 := eq_true p85; replace q85 := eq_true q85; obtain ⟨hy104_, hz104_⟩ := Kd.R_celln 0 HO_9.out (x70_3 : Int) (of_decide_eq_true zA) (of_decide_eq_true zA); have HP104 := Kd.R_putg HO_9.out (x70_3 : Int) (IntKind.i16.wrap ((x238001_3.length : Int)))) | ((with_reducible refine gate_store (t := 54) (p := 85) rfl ?_); refine store_event (t := 54) (p := 85) (v := ?vo_w105) (w1 := (w94.setCell ⟨go85, (x70_3 : Int).toNat, none⟩ (.int .i16 (IntKind.i16.wrap ((x238001_3.length : Int)))))) ?hg ?ho ?hn ?hr ?_; (case ho => rfl); (case hg => rfl); (case hn => rfl); (case hr => exact zgs); intro w105 hw; have hg : w94.grownBy w105 (some go85) := (by rw [hw]; exact HP104.2); have hp_ : Kd.R (Kd.int .i16) 54 w105 w.heap.size (fun _ => True) (.slice (some ⟨go85, 0, none⟩) x9_3.length co85) y242 := (by rw [hw, Ny242.out]; exact HP104.1); clear HP104; have n_ : _ ∧ _ ∧ _ ∧ _ ∧ _ ∧ _ ∧ _ ∧ _ ∧ _ := ⟨Aside0.mk (hp_), Aside0.mk (Kd.R_over' (v := (.slice (some ⟨go85, 0, none⟩) x9_3.length co85)) (ze HO_221000).out (Kd.R_typed HO_9.out) (by decide) hg), Aside0.mk (Kd.R_over' (v := (.slice (some ⟨go85, 0, none⟩) x9_3.length co85)) (ze HO_238001).out (Kd.R_typed HO_9.out) (by decide) hg), Aside0.mk (blk_grown (g := gb215) (o := .cells #[.int .i8 0, .slice none 0 0, .slice none 0 0] 29 (0, 0)) (zh BK215).out hg (Kd.R_ne HO_9.out BK215.out (by decide))), Aside0.mk (blk_grown (g := gb220) (o := .cells #[.slice (some ad241) x221000_2.length co99] 89 (0, 0)) (zh BK220).out hg (Kd.R_ne HO_9.out BK220.out (by decide))), Aside0.mk (blk_grown (g := gb231) (o := .deferred (some [])) (zh BK231).out hg (R_neD HO_9.out BK231.out)), Aside0.mk (blk_grown (g := gb237) (o := .cells #[.int .i8 ((rd_T29 l0 0).f0), .slice Ao103 x238001_3.length co103, .slice none 0 0] 29 (0, 0)) (zh BK237).out hg (Kd.R_ne HO_9.out BK237.out (by decide))), Aside0.mk (blk_grown (g := gb240) (o := .cells #[.int .i8 ((rd_T61 ((rd_T29 l0 0).f1) x70_3).f0), .int .i16 ((rd_T61 ((rd_T29 l0 0).f1) x70_3).f1), .int .i16 ((rd_T61 ((rd_T29 l0 0).f1) x70_3).f2)] 61 (0, 0)) (zh BK240).out hg (Kd.R_ne HO_9.out BK240.out (by decide))), Aside0.mk ((by rw [hw]; exact below_set (HB.out) GB85.out : Below w.heap.size w w105))⟩; clear HO_9 HO_221000 HO_238001 BK215 BK220 BK231 BK237 BK240 HB; obtain ⟨HO_9, HO_221000, HO_238001, BK215, BK220, BK231, BK237, BK240, HB⟩ := n_; clear hg hw hp_))
 have n_ : _ ∧ _ ∧ _ ∧ _ ∧ _ ∧ _ ∧ _ ∧ _ ∧ _ := ⟨Aside0.mk (Kd.R_drew HO_9.out), Aside0.mk (Kd.R_drew HO_221000.out), Aside0.mk (Kd.R_drew HO_238001.out), Aside0.mk (blk_drew BK215.out), Aside0.mk (blk_drew BK220.out), Aside0.mk (blk_drew BK231.out), Aside0.mk (blk_drew BK237.out), Aside0.mk (blk_drew BK240.out), Aside0.mk (below_drew1 HB.out)⟩
 clear HO_9 HO_221000 HO_238001 BK215 BK220 BK231 BK237 BK240 HB
 obtain ⟨HO_9, HO_221000, HO_238001, BK215, BK220, BK231, BK237, BK240, HB⟩ := n_
 refine start_ (n := 9) (S := fun w' => w'.cell? ⟨gb237, 0, none⟩ = some (.int .i8 ((rd_T29 l0 0).f0)) ∧ w'.cell? ⟨gb237, 1, none⟩ = some (.slice Ao103 x238001_3.length co103) ∧ w'.cell? ⟨gb237, 2, none⟩ = some (.slice none 0 0) ∧ w'.cell? ⟨gb240, 0, none⟩ = some (.int .i8 ((rd_T61 ((rd_T29 l0 0).f1) x70_3).f0)) ∧ w'.cell? ⟨gb240, 1, none⟩ = some (.int .i16 ((rd_T61 ((rd_T29 l0 0).f1) x70_3).f1)) ∧ w'.cell? ⟨gb240, 2, none⟩ = some (.int .i16 ((rd_T61 ((rd_T29 l0 0).f1) x70_3).f2))) (ds := [8]) (zq 9 0) (by kernel_rfl) rfl rfl ⟨(blk_cell BK237.out 0).trans rfl, (blk_cell BK237.out 1).trans rfl, (blk_cell BK237.out 2).trans rfl, (blk_cell BK240.out 0).trans rfl, (blk_cell BK240.out 1).trans rfl, (blk_cell BK240.out 2).trans rfl⟩ (fun hHeld => ?_); refine with_tabW impl_Network_trimmed.tab18 impl_Network_trimmed.bits18 (fun HT_ HW_ => ?_)
 generalize w105.drew = w106 at HO_9 HO_221000 HO_238001 BK215 BK220 BK231 BK237 BK240 HB hHeld ⊢
 refine zpu 0 (some 86) (zq 9 1) HT_ ?_
 refine zpu 3 (some 89) (zq 9 9) HT_ ?_
 refine ztk 1 (some 87) (zq 9 11) HT_ HW_ rfl hHeld (Or.inl ⟨by rfl, by (rintro w' ⟨s0, s1, s2, s3, s4, s5⟩; go_simp; with_reducible rfl)⟩) ?_
 refine ztk 2 (some 88) (zq 9 15) HT_ HW_ rfl hHeld (Or.inl ⟨by rfl, by (rintro w' ⟨s0, s1, s2, s3, s4, s5⟩; go_simp; with_reducible rfl)⟩) ?_
 refine one_ (i := 4) (N := some 90) (zq 9 31) rfl rfl (one_of HT_.out (by kernel_rfl)) (by decide) (fun K hK => ?_)
 refine goes_ Try.func52 (by kernel_rfl) rfl #[.agg #[.int .i8 ((rd_T61 ((rd_T29 l0 0).f1) x70_3).f0), .int .i16 ((rd_T61 ((rd_T29 l0 0).f1) x70_3).f1), .int .i16 ((rd_T61 ((rd_T29 l0 0).f1) x70_3).f2)], .slice (some ⟨go85, 0, none⟩) y242.length co85] (by rfl) rfl rfl (by (try simp only [List.map_toArray, List.map_cons, List.map_nil]); first | done | (rw [show y242.length = x9_3.length from (Kd.R_reads' HO_9.out).1.symm] <;> rfl) | rfl | (simp only [List.length_drop, List.length_take]; rfl)) ?_
 with_reducible refine (impl_Node_renamed.calls ((rd_T61 ((rd_T29 l0 0).f1) x70_3).f0) ((rd_T61 ((rd_T29 l0 0).f1) x70_3).f1) ((rd_T61 ((rd_T29 l0 0).f1) x70_3).f2) _ _ y242 t243 t244 t245 _ ?side1 ?side2 A86.out).mono ?_
 (case side1 => exact zrc HO_9)
 (case side2 => rw [show y242.length = x9_3.length from (Kd.R_reads' HO_9.out).1.symm]; exact (Kd.R_reads' HO_9.out).2.1)
 rintro e w107 ⟨rfl, hb⟩
 refine ⟨_, rfl, ?_⟩
 have n_ : _ ∧ _ ∧ _ ∧ _ ∧ _ ∧ _ ∧ _ ∧ _ ∧ _ := ⟨zr HO_9 hb, zr HO_221000 hb, zr HO_238001 hb, zk BK215 hb, zk BK220 hb, zk BK231 hb, zk BK237 hb, Aside0.mk (blk_below (g := gb240) (o := .cells #[.int .i8 ((rd_T61 ((rd_T29 l0 0).f1) x70_3).f0), .int .i16 ((rd_T61 ((rd_T29 l0 0).f1) x70_3).f1), .int .i16 ((rd_T61 ((rd_T29 l0 0).f1) x70_3).f2)] 61 (0, 0)) (zh BK240).out hb), zbs hb⟩
 clear HO_9 HO_221000 HO_238001 BK215 BK220 BK231 BK237 BK240 HB
 obtain ⟨HO_9, HO_221000, HO_238001, BK215, BK220, BK231, BK237, BK240, HB⟩ := n_
 (try clear hb)
 (try clear hb2)
 (try clear hk)
 (try clear hi)
 refine hK.out _ _ ⟨(blk_cell BK237.out 0).trans rfl, (blk_cell BK237.out 1).trans rfl, (blk_cell BK237.out 2).trans rfl, (blk_cell BK240.out 0).trans rfl, (blk_cell BK240.out 1).trans rfl, (blk_cell BK240.out 2).trans rfl⟩ (fun hHeld => ?_)
 clear hK K
 refine norm_ (a' := ?_) ?_ ?_
 rotate_left
 ·show Act.put _ (some 90) _ = _
  exact zap
 refine one_ (i := 5) (N := some 91) (zq 9 63) rfl rfl (one_of HT_.out (by kernel_rfl)) (by decide) (fun K hK => ?_)
 refine value_ (w1 := ?_) (v := ?_) (by rfl) rfl ?_ ?_
 rotate_left 2
 ·go_simp
  constructor
  rotate_left
  ·rfl
  rfl
 refine hK.out _ _ ⟨(blk_cell (blk_alloc BK237.out _) 0).trans rfl, (blk_cell (blk_alloc BK237.out _) 1).trans rfl, (blk_cell (blk_alloc BK237.out _) 2).trans rfl, (blk_cell (blk_alloc BK240.out _) 0).trans rfl, (blk_cell (blk_alloc BK240.out _) 1).trans rfl, (blk_cell (blk_alloc BK240.out _) 2).trans rfl⟩ (fun hHeld => ?_)
 clear hK K
 refine norm_ (a' := ?_) ?_ ?_
 rotate_left
 ·show Act.put _ (some 91) _ = _
  exact zap
 refine one_ (i := 6) (N := some 92) (zq 9 127) rfl rfl (one_of HT_.out (by kernel_rfl)) (by decide) (fun K hK => ?_)
 refine Kd.R_append_step k61 (w0 := w) w.heap.size (by rfl) (.tmp 87) (.tmp 91) 26 61 (.agg #[(.int .i8 0), (.int .i16 0), (.int .i16 0)]) 6 rfl Try.underlying26 info61 rfl (by decide) (by omega) (.slice Ao103 x238001_3.length co103) x238001_3 (⟨t243, t244, t245⟩ : S61) [.int .i8 t243, .int .i16 t244, .int .i16 t245] (fun k_ => k_ ≠ gb240) (fun _ => False) rfl rfl ?aP (fun _ hk => hk.elim) ?aF ?aO ?aB ?aS ?aL ?_
 (case aP => exact k61_mkM _ _ _ (⟨t243, t244, t245⟩ : S61))
 (case aB => exact zbo)
 (case aF => exact (fun k_ hk => Kd.freshB (g := gb240) (o := .cells #[.int .i8 ((rd_T61 ((rd_T29 l0 0).f1) x70_3).f0), .int .i16 ((rd_T61 ((rd_T29 l0 0).f1) x70_3).f1), .int .i16 ((rd_T61 ((rd_T29 l0 0).f1) x70_3).f2)] 61 (0, 0)) (zh BK240).out k_ hk))
 (case aO => exact (ze HO_238001).out)
 (case aS => exact (zz HB))
 (case aL => have := LMc87.out; omega)
 intro v247 w108 ho hb hg hat
 rw [← Ny246.out] at ho
 have n_ : _ ∧ _ ∧ _ ∧ _ ∧ _ ∧ _ ∧ _ ∧ _ ∧ _ := ⟨Aside0.mk (Kd.R_over' (ze HO_9).out (Kd.R_typed (ze HO_238001).out) (by decide) hg), Aside0.mk (Kd.R_over' (ze HO_221000).out (Kd.R_typed (ze HO_238001).out) (by decide) hg), Aside0.mk (blk_grown (g := gb215) (o := .cells #[.int .i8 0, .slice none 0 0, .slice none 0 0] 29 (0, 0)) (zh BK215).out hg (Kd.R_ne HO_238001.out BK215.out (by decide))), Aside0.mk (blk_grown (g := gb220) (o := .cells #[.slice (some ad241) x221000_2.length co99] 89 (0, 0)) (zh BK220).out hg (Kd.R_ne HO_238001.out BK220.out (by decide))), Aside0.mk (blk_grown (g := gb231) (o := .deferred (some [])) (zh BK231).out hg (R_neD HO_238001.out BK231.out)), Aside0.mk (blk_grown (g := gb237) (o := .cells #[.int .i8 ((rd_T29 l0 0).f0), .slice Ao103 x238001_3.length co103, .slice none 0 0] 29 (0, 0)) (zh BK237).out hg (Kd.R_ne HO_238001.out BK237.out (by decide))), Aside0.mk (blk_grown (g := gb240) (o := .cells #[.int .i8 ((rd_T61 ((rd_T29 l0 0).f1) x70_3).f0), .int .i16 ((rd_T61 ((rd_T29 l0 0).f1) x70_3).f1), .int .i16 ((rd_T61 ((rd_T29 l0 0).f1) x70_3).f2)] 61 (0, 0)) (zh BK240).out hg (Kd.R_away HO_238001.out (fun _ hk => hk))), Aside0.mk (hb), Aside0.mk (ho)⟩
 clear HO_9 HO_221000 BK215 BK220 BK231 BK237 BK240 HB HO_238001
 obtain ⟨HO_9, HO_221000, BK215, BK220, BK231, BK237, BK240, HB, HO248⟩ := n_
 clear ho hb hg hat
 obtain ⟨Ao109, co109, eo109⟩ := Kd.R_slice HO248.out
 (first | subst eo109 | (injection eo109 with f1_ f2_ f3_; have f4_ := f1_.symm; have f5_ := f3_.symm; clear f1_ f2_ f3_; subst f4_; subst f5_))
 refine hK.out _ _ ⟨(blk_cell BK237.out 0).trans rfl, (blk_cell BK237.out 1).trans rfl, (blk_cell BK237.out 2).trans rfl, (blk_cell BK240.out 0).trans rfl, (blk_cell BK240.out 1).trans rfl, (blk_cell BK240.out 2).trans rfl⟩ (fun hHeld => ?_)
 clear hK K
 refine norm_ (a' := ?_) ?_ ?_
 rotate_left
 ·show Act.put _ (some 92) _ = _
  exact zap
 refine zpu 7 (some 93) (zq 9 255) HT_ ?_
 refine last_ (i := 8) (N := none) (zq 9 511) rfl rfl (one_of HT_.out (by kernel_rfl)) (by decide) (fun K hK => ?_)
 have hs110 : w108.cell? ⟨gb237, 1, none⟩ = some (.slice Ao103 x238001_3.length co103) := (blk_cell BK237.out 1).trans rfl
 have hfs110 := blk_frozen BK237.out 1
 have hns110_0 := NB215_237.out
 have hns110_1 := NB220_237.out
 have hns110_2 := NB231_237.out
 have hns110_4 := NB240_237.out
 have hms110_0 := NB237_215.out
 have hms110_1 := NB237_220.out
 have hms110_2 := NB237_231.out
 have hms110_4 := NB237_240.out
 refine skip_ (w1 := ?_) (by rfl) rfl ?_ ?_
 rotate_left
 ·go_simp
  rfl
 refine hK.out _ _ ?_
 clear hK K
 refine done_ (done_of HT_.out (by kernel_rfl)) ?_
 try go_wp2
 go_roundg k3
 case measure => have := HK1.out; have := HK2.out; have := HK3.out; omega
 case rel => exact ⟨(y242), (wrap64 (x70_3 + 1)), (y246), (.slice Ao109 y246.length co109), zi, H', ⟨by have := HK1.out; have := HK2.out; have := HK3.out; omega⟩, ⟨Kd.R_mono (zs HO_9 BK237).out (fun _ hk => trivial)⟩, ⟨Kd.R_mono (zs HO_221000 BK237).out (fun _ hk => trivial)⟩, ⟨Kd.R_mono (zs HO248 BK237).out (fun _ hk => trivial)⟩, zf BK215 NB215_237, zf BK220 NB220_237, zf BK231 NB231_237, ⟨zp BK237⟩, zba⟩
end Go.Proofs.Ytkflenibdijnaaa.PFnAdders
