-- WRITTEN by xprint.py, a program of this session's. Not trusted: Lean checks it.
import Derived.Ground.NamesProg
import Derived.Shelf.Strings.BuilderK
import Derived.Test.YtnbjijkpenlpbaaDoorPFnExactPushesTextx0
import Derived.Test.YtnbjijkpenlpbaaDoorPFnExactPushesTextx3
namespace Go.Proofs.YtnbjijkpenlpbaaDoor.PFnExactPushesText
open Go.RowKit Go.Proofs.YtnbjijkpenlpbaaDoorW.PrintWords Go.Proofs.YtnbjijkpenlpbaaDoorW.PrintLast Go.Proofs.YtnbjijkpenlpbaaDoorW.PrintMore Go.Proofs.YtnbjijkpenlpbaaDoorX
attribute [local go_sem] max2_int min2_int max_two min_two max_three min_three max_four min_four   -- for this text's walks alone
set_option linter.unusedVariables false
set_option linter.unusedSimpArgs false

/-! ### impl_PushesText: function 8 -/
open Go.Shelf
def Tryd.laysWriteString_ren : Go.Shelf.Ren := ⟨fun | 166 => 22 | 240 => 42 | 276 => 58 | n => n, fun | 0 => 0 | 3 => 3 | 4 => 4 | 5 => 5 | 9 => 9 | 20 => 20 | 37 => 54 | 70 => 53 | 72 => 56 | 75 => 58 | 80 => 61 | 164 => 97 | n => n, fun n => n⟩
theorem Tryd.laysWriteString : Lays.n166 Tryd.prog Tryd.laysWriteString_ren := {
  mixed := by kernel_rfl
  f166 := Tryd.func22.trans (congrArg some (by kernel_rfl))
  f240 := Tryd.func42.trans (congrArg some (by kernel_rfl))
  f276 := Tryd.func58.trans (congrArg some (by kernel_rfl))
  t0 := Tryd.underlying0
  a0 := Tryd.isAgg0
  z0 := Tryd.sizeOf0
  v0 := Tryd.zeroValue0
  t3 := Tryd.underlying3
  a3 := Tryd.isAgg3
  z3 := Tryd.sizeOf3
  v3 := Tryd.zeroValue3
  t4 := Tryd.underlying4
  a4 := Tryd.isAgg4
  z4 := Tryd.sizeOf4
  v4 := Tryd.zeroValue4
  t9 := Tryd.underlying9
  a9 := Tryd.isAgg9
  z9 := Tryd.sizeOf9
  v9 := Tryd.zeroValue9
  t20 := Tryd.underlying20
  a20 := Tryd.isAgg20
  z20 := Tryd.sizeOf20
  v20 := Tryd.zeroValue20
  t37 := Tryd.underlying54
  a37 := Tryd.isAgg54
  z37 := Tryd.sizeOf54
  v37 := Tryd.zeroValue54
  t70 := Tryd.underlying53
  a70 := Tryd.isAgg53
  z70 := Tryd.sizeOf53
  v70 := Tryd.zeroValue53
  t72 := Tryd.underlying56
  a72 := Tryd.isAgg56
  z72 := Tryd.sizeOf56
  v72 := Tryd.zeroValue56
  t75 := Tryd.underlying58
  a75 := Tryd.isAgg58
  z75 := Tryd.sizeOf58
  v75 := Tryd.zeroValue58
  t164 := Tryd.underlying97
  a164 := Tryd.isAgg97
  z164 := Tryd.sizeOf97
  v164 := Tryd.zeroValue97 }
theorem Tryd.extraWriteString : Builder.Extra Tryd.prog Tryd.laysWriteString_ren := {
  sizeBuilder := by kernel_rfl
  liesBuilder := by kernel_rfl
  t5 := Tryd.underlying5
  a5 := Tryd.isAgg5
  z5 := Tryd.sizeOf5
  v5 := Tryd.zeroValue5
  infoByte := by kernel_rfl
  cellsByte := by kernel_rfl
  sizeByte := by kernel_rfl
  neB5 := by decide }
def Tryd.laysString_ren : Go.Shelf.Ren := ⟨fun | 169 => 26 | n => n, fun | 70 => 53 | 9 => 9 | 0 => 0 | 72 => 56 | 37 => 54 | 127 => 81 | 3 => 3 | 5 => 5 | n => n, fun | n => n⟩
theorem Tryd.laysString : Go.Proofs.Lays.n169 Tryd.prog Tryd.laysString_ren := {
  mixed := by kernel_rfl
  f169 := Tryd.func26.trans (congrArg some (by kernel_rfl))
  t0 := Tryd.underlying0
  a0 := Tryd.isAgg0
  z0 := Tryd.sizeOf0
  v0 := Tryd.zeroValue0
  t3 := Tryd.underlying3
  a3 := Tryd.isAgg3
  z3 := Tryd.sizeOf3
  v3 := Tryd.zeroValue3
  t9 := Tryd.underlying9
  a9 := Tryd.isAgg9
  z9 := Tryd.sizeOf9
  v9 := Tryd.zeroValue9
  t37 := Tryd.underlying54
  a37 := Tryd.isAgg54
  z37 := Tryd.sizeOf54
  v37 := Tryd.zeroValue54
  t70 := Tryd.underlying53
  a70 := Tryd.isAgg53
  z70 := Tryd.sizeOf53
  v70 := Tryd.zeroValue53
  t72 := Tryd.underlying56
  a72 := Tryd.isAgg56
  z72 := Tryd.sizeOf56
  v72 := Tryd.zeroValue56
  t127 := Tryd.underlying81
  a127 := Tryd.isAgg81
  z127 := Tryd.sizeOf81
  v127 := Tryd.zeroValue81 }
theorem Tryd.extraString : Builder.Extra Tryd.prog Tryd.laysString_ren := {
  sizeBuilder := by kernel_rfl
  liesBuilder := by kernel_rfl
  t5 := Tryd.underlying5
  a5 := Tryd.isAgg5
  z5 := Tryd.sizeOf5
  v5 := Tryd.zeroValue5
  infoByte := by kernel_rfl
  cellsByte := by kernel_rfl
  sizeByte := by kernel_rfl
  neB5 := by decide }
/-- A builder in block gb that holds the string x. -/
def BF (B gb : Nat) (x : ByteArray) (w : World) : Prop := Go.Lib.IsBuilderF 56 5 B gb (Go.Lib.strCells x) w
theorem bf_heap {B gb : Nat} {x : ByteArray} {w w1 : World} (h : BF B gb x w) (hk : ∀ (k : Nat) (cs : Array Value) (t : TypeId) (fz : Nat × Nat), w.heap[k]? = some (Obj.cells cs t fz) → t = 56 ∨ t = 5 → w1.heap[k]? = some (Obj.cells cs t fz)) : BF B gb x w1 := by
  have go : ∀ p, Go.Lib.BuilderAtF 56 5 B gb p (Go.Lib.strCells x) w → Go.Lib.BuilderAtF 56 5 B gb p (Go.Lib.strCells x) w1 := by
    rintro p ⟨hB, v, hb, hown, hne⟩
    refine ⟨hB, v, hk _ _ _ _ hb (.inl rfl), ⟨hown.1, ?_⟩, hne⟩
    rcases hown.2 with h2 | ⟨g, cap, cur, fz, hv, hg, hh, r⟩
    · exact .inl h2
    · exact .inr ⟨g, cap, cur, fz, hv, hg, hk _ _ _ _ hh (.inr rfl), r⟩
  exact h.elim (fun h => .inl (go _ h)) (fun h => .inr (go _ h))
theorem bf_drew {B gb : Nat} {x : ByteArray} {w : World} (h : BF B gb x w) : BF B gb x w.drew := h
theorem bf_drewN {B gb : Nat} {x : ByteArray} {w : World} (h : BF B gb x w) (n : Nat) : BF B gb x (w.drewN n) := bf_heap h (fun _ _ _ _ hk _ => hk)
theorem bf_below {B gb : Nat} {x : ByteArray} {w w1 : World} (h : BF B gb x w) (hb : Below w.heap.size w w1) : BF B gb x w1 := bf_heap h (fun _ _ _ _ hk _ => blk_below hk hb)
theorem bf_fresh {B gb : Nat} {w : World} (h : w.heap[gb]? = some (Obj.cells #[.pointer none, .slice none 0 0] 56 (0, 0))) (hB : B ≤ gb) : BF B gb ⟨#[]⟩ w :=
  .inl ⟨hB, .slice none 0 0, h, ⟨rfl, .inl ⟨rfl, rfl⟩⟩, by simp [Value.ownBlock]⟩
/-- A block of a type that is neither the builder's nor a byte's. -/
def Ty (g t : Nat) (w : World) : Prop := ∃ cs fz, w.heap[g]? = some (Obj.cells cs t fz)
theorem bf_set {B gb g t : Nat} {x : ByteArray} {w : World} (h : BF B gb x w ∧ Ty g t w) (h1 : t ≠ 56) (h2 : t ≠ 5) (i : Nat) (v : Value) : BF B gb x (w.setCell ⟨g, i, none⟩ v) ∧ Ty g t (w.setCell ⟨g, i, none⟩ v) := by
  obtain ⟨h, cs0, fz0, hg⟩ := h
  refine ⟨bf_heap h (fun k cs t' fz hk ht => ?_), ?_⟩
  · by_cases e : k = g
    · subst e
      rw [hg] at hk
      simp only [Option.some.injEq, Obj.cells.injEq] at hk
      exact ht.elim (fun e => absurd (hk.2.1.trans e) h1) (fun e => absurd (hk.2.1.trans e) h2)
    · rw [← hk]
      exact Below.heap_setCell _ _ _ _ e
  · exact ⟨cs0.set! i v, fz0, by simp [World.setCell, Array.getElem?_modify, hg]⟩
/-- What stands behind a write: a block of another type. -/
theorem oth_keep {gb : Nat} {w w1 : World} (h : Go.Lib.OthersKept 5 (some gb) w w1) {B : Nat} {x : ByteArray} (hb : BF B gb x w) {g t : Nat} {cs : Array Value} {fz : Nat × Nat} (hg : w.heap[g]? = some (Obj.cells cs t fz)) (h1 : t ≠ 56) (h2 : t ≠ 5) : w1.heap[g]? = some (Obj.cells cs t fz) := by
  refine h g _ hg (fun e => ?_) (fun c f e => ?_)
  · have e' : g = gb := Option.some.inj e
    subst e'
    have : ∃ v p, w.heap[g]? = some (Obj.cells #[p, v] 56 (0, 0)) := by
      rcases hb with ⟨_, v, hv, _⟩ | ⟨_, v, hv, _⟩ <;> exact ⟨_, _, hv⟩
    obtain ⟨v, p, hv⟩ := this
    rw [hg] at hv
    simp only [Option.some.injEq, Obj.cells.injEq] at hv
    exact h1 hv.2.1
  · simp only [Obj.cells.injEq] at e
    exact h2 e.2.1
theorem oth_cell {gb : Nat} {w w1 : World} (h : Go.Lib.OthersKept 5 (some gb) w w1) {B : Nat} {x : ByteArray} (hb : BF B gb x w) {g t : Nat} {cs : Array Value} {fz : Nat × Nat} (hg : w.heap[g]? = some (Obj.cells cs t fz)) (h1 : t ≠ 56) (h2 : t ≠ 5) {a : Addr} {v : Value} (hv : w.cell? a = some v) (ha : a.block = g) : w1.cell? a = some v := by
  subst ha
  have := oth_keep h hb hg h1 h2
  rw [← hv]
  simp [World.cell?, this, hg]
theorem builder_write (B gb : Nat) (x s : ByteArray) (w : World) (h : BF B gb x w) (hlen : x.size + s.size ≤ 140737488355328) (hBw : B ≤ w.heap.size) :
    Calls Tryd.prog 22 #[.pointer (some ⟨gb, 0, none⟩), .string s] w fun e w' => e = .returned (.tuple #[.int .i64 s.size, .nilIface]) ∧ BF B gb (x ++ s) w' ∧ Below B w w' ∧ Go.Lib.OthersKept 5 (some gb) w w' := by
  refine (Any.Builder_WriteString_k Tryd.laysWriteString Tryd.extraWriteString B gb (Go.Lib.strCells x) s w h (by simpa [Go.Lib.strCells] using hlen) hBw).mono ?_
  rintro e w' ⟨rfl, h1, h2, h3⟩
  refine ⟨rfl, .inr ?_, h2, h3⟩
  have : Go.Lib.strCells (x ++ s) = Go.Lib.strCells x ++ Go.Lib.strCells s := by simp [Go.Lib.strCells]
  rw [this]
  exact h1
theorem builder_string (B gb : Nat) (x : ByteArray) (w : World) (h : BF B gb x w) (hBw : B ≤ w.heap.size) :
    Calls Tryd.prog 26 #[.pointer (some ⟨gb, 0, none⟩)] w fun e w' => e = .returned (.string x) ∧ Below B w w' := by
  refine (Any.Builder_String_any_k Tryd.laysString Tryd.extraString B gb x.data.toList w (by exact h) hBw).mono ?_
  rintro e w' ⟨rfl, h1, h2, h3⟩
  exact ⟨by cases x; simp, h2⟩
mutual
def impl_PushesText.j0 : Nat → List (S46) → Bool → Option (ByteArray)
  | 0, _, _ => none
  | k + 1, x0, x12 => if x12 = true then (some (⟨#[]⟩ : ByteArray)) else (impl_PushesText.l0 k (⟨#[]⟩ : ByteArray) x0 (x0.length : Int) 0)
def impl_PushesText.l0 : Nat → ByteArray → List (S46) → Int → Int → Option (ByteArray)
  | 0, _, _, _, _ => none
  | k + 1, x3, x14, x15, x16 => if x16 < x15 then (if 0 ≤ x16 then (if x16 < (x14.length : Int) then ((impl_Cell_text.f ((rd_T46 x14 x16).f0.f0) ((rd_T46 x14 x16).f0.f1)).bind fun t179 => (if t179.size + 1 ≤ 9223372036854775807 then ((impl_sideNames.f).bind fun t180 => (if 0 ≤ ((rd_T46 x14 x16).f1) then (if ((rd_T46 x14 x16).f1) < (t180.length : Int) then (if t179.size + 1 + (rdOf ByteArray.empty t180 ((rd_T46 x14 x16).f1)).size ≤ 9223372036854775807 then (if t179.size + 1 + (rdOf ByteArray.empty t180 ((rd_T46 x14 x16).f1)).size + 1 ≤ 9223372036854775807 then ((impl_decimal_int16.f ((rd_T46 x14 x16).f2)).bind fun t184 => (if t179.size + 1 + (rdOf ByteArray.empty t180 ((rd_T46 x14 x16).f1)).size + 1 + t184.size ≤ 9223372036854775807 then (if t179.size + 1 + (rdOf ByteArray.empty t180 ((rd_T46 x14 x16).f1)).size + 1 + t184.size + 1 ≤ 9223372036854775807 then (if x3.size + t179.size + 1 + (rdOf ByteArray.empty t180 ((rd_T46 x14 x16).f1)).size + 1 + t184.size + 1 ≤ 140737488355328 then (impl_PushesText.l0 k (x3 ++ (((((t179 ++ (⟨#[32]⟩ : ByteArray)) ++ (rdOf ByteArray.empty t180 ((rd_T46 x14 x16).f1))) ++ (⟨#[32]⟩ : ByteArray)) ++ t184) ++ (⟨#[10]⟩ : ByteArray))) x14 x15 (wrap64 (x16 + 1))) else (none)) else (none)) else (none))) else (none)) else (none)) else (none)) else (none))) else (none))) else (none)) else (none)) else (some x3)
end
def impl_PushesText.f (k : Nat) (l0 : List (S46)) : Option (ByteArray) := if (l0.length : Int) > 20 then (impl_PushesText.j0 k l0 true) else ((slices_ContainsFunc__impl_PushesText_1.f k l0).bind fun t176 => (impl_PushesText.j0 k l0 t176))
theorem impl_PushesText.mono_l : ∀ k, (∀ y0 y1, LeO (impl_PushesText.j0 k y0 y1) (impl_PushesText.j0 (k + 1) y0 y1)) ∧ (∀ y0 y1 y2 y3, LeO (impl_PushesText.l0 k y0 y1 y2 y3) (impl_PushesText.l0 (k + 1) y0 y1 y2 y3))
  | 0 => ⟨fun _ _ r h => by simp [impl_PushesText.j0] at h, fun _ _ _ _ r h => by simp [impl_PushesText.l0] at h⟩
  | k + 1 => by
    obtain ⟨ih0, ih1⟩ := impl_PushesText.mono_l k
    refine ⟨?_, ?_⟩
    · intro y0 y1
      unfold impl_PushesText.j0
      repeat' first
      | (with_reducible exact ih0 _ _)
      | (with_reducible exact ih1 _ _ _ _)
      | (with_reducible exact slices_ContainsFunc__impl_PushesText_1.mono _ _)
      | (with_reducible exact LeO.refl _)
      | (with_reducible exact LeO.none _)
      | (with_reducible refine LeO.ite ?_ ?_)
      | (with_reducible refine LeO.bind ?_ (fun _ => ?_))
      | exact ih0 _ _
      | exact ih1 _ _ _ _
      | exact slices_ContainsFunc__impl_PushesText_1.mono _ _
      | exact LeO.none _
      | refine LeO.ite ?_ ?_
      | refine LeO.bind ?_ (fun _ => ?_)
    · intro y0 y1 y2 y3
      unfold impl_PushesText.l0
      repeat' first
      | (with_reducible exact ih0 _ _)
      | (with_reducible exact ih1 _ _ _ _)
      | (with_reducible exact slices_ContainsFunc__impl_PushesText_1.mono _ _)
      | (with_reducible exact LeO.refl _)
      | (with_reducible exact LeO.none _)
      | (with_reducible refine LeO.ite ?_ ?_)
      | (with_reducible refine LeO.bind ?_ (fun _ => ?_))
      | exact ih0 _ _
      | exact ih1 _ _ _ _
      | exact slices_ContainsFunc__impl_PushesText_1.mono _ _
      | exact LeO.none _
      | refine LeO.ite ?_ ?_
      | refine LeO.bind ?_ (fun _ => ?_)
theorem impl_PushesText.mono : ∀ a0 k, LeO (impl_PushesText.f k a0) (impl_PushesText.f (k + 1) a0) := by
  intro a0 k
  obtain ⟨ih0, ih1⟩ := impl_PushesText.mono_l k
  unfold impl_PushesText.f
  repeat' first
      | (with_reducible exact ih0 _ _)
      | (with_reducible exact ih1 _ _ _ _)
      | (with_reducible exact slices_ContainsFunc__impl_PushesText_1.mono _ _)
      | (with_reducible exact LeO.refl _)
      | (with_reducible exact LeO.none _)
      | (with_reducible refine LeO.ite ?_ ?_)
      | (with_reducible refine LeO.bind ?_ (fun _ => ?_))
      | exact ih0 _ _
      | exact ih1 _ _ _ _
      | exact slices_ContainsFunc__impl_PushesText_1.mono _ _
      | exact LeO.none _
      | refine LeO.ite ?_ ?_
      | refine LeO.bind ?_ (fun _ => ?_)
def impl_PushesText.T7 : Bool × List (List Nat × List Nat) := (true, [([], []), ([0], [0]), ([1], [1]), ([2], [2]), ([2], []), ([], []), ([5], [5]), ([4, 6], [4, 6]), ([7], [7]), ([3, 8], [3, 8]), ([9], [9]), ([], []), ([11], [11]), ([12, 4], [12]), ([10, 13], [10, 13]), ([14], [14]), ([15, 13], [15])])
def impl_PushesText.B7 : List Nat := [0, 1, 3, 7, 7, 0, 32, 119, 247, 511, 1023, 0, 2048, 6167, 16383, 32767, 65535]
theorem impl_PushesText.tab7 : rtab .any (opsOf Tryd.f8 7) = impl_PushesText.T7 := by kernel_rfl
theorem impl_PushesText.bits7 : waitsOk impl_PushesText.T7.2 impl_PushesText.B7 = true := by kernel_rfl
set_option maxHeartbeats 8000000 in
set_option maxRecDepth 100000 in
theorem impl_PushesText.calls (k : Nat) (A0 : Option Addr) (c0 : Nat) (l0 : List (S46)) (r : ByteArray) (w : World) (hr0 : Kd.C k46 w A0 l0.length l0) (hc0 : l0.length ≤ c0) (h : impl_PushesText.f k l0 = some r) (htab : TB w) :
    Calls Tryd.prog 8 #[.slice A0 l0.length c0] w fun e w' => e = .returned (.string r) ∧ Below w.heap.size w w' := by
  have HT0 := Aside0.mk htab
  clear htab
  have hu46 := Tryd.underlying46
  have hu43 := Tryd.underlying43
  have HR0 := Aside0.mk hr0
  have HC0 := Aside0.mk hc0
  clear hr0 hc0
  have HB := Aside0.mk (Below.refl w.heap.size w)
  have H : (if (l0.length : Int) > 20 then (impl_PushesText.j0 k l0 true) else ((slices_ContainsFunc__impl_PushesText_1.f k l0).bind fun t176 => (impl_PushesText.j0 k l0 t176))) = some r := h
  clear h
  have HC2 := Aside0.mk H
  clear H
  go_enter Tryd.func8, Tryd.ntmps8
  go_upto_region 1 with (fail)
  go_cut [12] (fun v12 wc => ∃ (kq : Nat) (x12_1 : Bool), v12 = .bool x12_1 ∧ Aside0 (impl_PushesText.j0 kq l0 x12_1 = some r) ∧ Aside0 (kq ≤ k) ∧ Aside0 (Below w.heap.size w wc))
  case first =>
    have H := HC2.out
    clear HC2
    by_cases c3 : (l0.length : Int) > 20
    · rw [if_pos c3] at H
      have c3b0 : decide (20 < (l0.length : Int)) = true := decide_eq_true c3
      have c3b1 : decide (20 < l0.length) = true := decide_eq_true (by omega)
      clear c3
      (first | rw [c3b0] | (simp only [i64_w, i32_w]; rw [c3b0]) | (have h_ := c3b0; simp only [bne] at h_; rw [h_]) | skip)
      have H' := Aside0.mk H
      clear H
      go_wp2
      go_meet
      case rel => exact ⟨_, (true), (by first | rfl | (simp; done) | (simp [*]; done) | (exact congrArg (Value.int .i64) (wrap_eq (by omega)))), H', ⟨by first | omega | exact Nat.le_refl _⟩, ⟨by repeat (first | (with_reducible first | exact HB.out | apply below_alloc | apply pw_below_drewN | apply below_drew1) | exact HB.out)⟩⟩
    · rw [if_neg c3] at H
      have c3b0 : decide (20 < (l0.length : Int)) = false := decide_eq_false c3
      have c3b1 : decide (20 < l0.length) = false := decide_eq_false (by omega)
      clear c3
      (first | rw [c3b0] | (simp only [i64_w, i32_w]; rw [c3b0]) | (have h_ := c3b0; simp only [bne] at h_; rw [h_]) | skip)
      replace H := Option.bind_eq_some_iff.mp H
      obtain ⟨t176, A40, H⟩ := H
      replace H : (impl_PushesText.j0 k l0 t176) = some r := H
      have A4 := Aside0.mk A40
      clear A40
      have H' := Aside0.mk H
      clear H
      go_wp2_with (first | (go_at_call 18; (with_reducible refine (slices_ContainsFunc__impl_PushesText_1.calls k _ _ l0  t176 _ ?side1 ?side2 A4.out).mono ?_); (case side1 => repeat (first | exact (Kd.C_below HR0.out HB.out) | (with_reducible refine Kd.C_alloc ?_ _) | (with_reducible refine Kd.C_drewN ?_ _) | (with_reducible refine Kd.C_drew ?_))); (case side2 => exact HC0.out); rintro e w5 ⟨rfl, hb⟩; have n0_ := Aside0.mk (below_step (by repeat (first | (with_reducible first | exact HB.out | apply below_alloc | apply pw_below_drewN | apply below_drew1) | exact HB.out)) hb); clear HB; have HB := n0_; clear n0_; (try clear hb); (try clear hb2); (try clear hk); (try clear hi)))
      go_meet
      case rel => exact ⟨_, (t176), (by first | rfl | (simp; done) | (simp [*]; done) | (exact congrArg (Value.int .i64) (wrap_eq (by omega)))), H', ⟨by first | omega | exact Nat.le_refl _⟩, ⟨by repeat (first | (with_reducible first | exact HB.out | apply below_alloc | apply pw_below_drewN | apply below_drew1) | exact HB.out)⟩⟩
  case rest =>
    clear HC2
    try clear p2
    try clear c3
    try clear c3b0
    try clear c3b1
    obtain ⟨kq, x12_1, rfl, HA, HJ1, HB⟩ := hcut
    cases kq with
    | zero => exact absurd HA.out (by simp [impl_PushesText.j0])
    | succ kj1 =>
      have H := HA.out
      clear HA
      simp only [impl_PushesText.j0] at H
      by_cases c6 : x12_1 = true
      · subst c6
        have H1 : (some (⟨#[]⟩ : ByteArray)) = some r := by rw [if_pos rfl] at H; exact H
        clear H
        have H := H1
        clear H1
        obtain rfl := Option.some.inj H
        go_wp2
        go_ret
        exact ⟨by first | rfl | (simp [errW_none, errW_some] <;> rfl) | (simp [*, errW_none, errW_some] <;> rfl), by repeat (first | (with_reducible first | exact HB.out | apply below_alloc | apply pw_below_drewN | apply below_drew1) | exact HB.out)⟩
      · replace c6 := Bool.eq_false_iff.mpr c6
        subst c6
        have H1 : (impl_PushesText.l0 kj1 (⟨#[]⟩ : ByteArray) l0 (l0.length : Int) 0) = some r := by rw [if_neg (show ¬ (false = true) by decide)] at H; exact H
        clear H
        have H := H1
        clear H1
        have H' := Aside0.mk H
        clear H
        try go_wp2_with (first | ((with_reducible refine gate_dst (N := 3) rfl ?_); refine box_event ?hg (N := 3) ?hd (cs := #[.pointer none, .slice none 0 0]) (t := 56) ?hr ?_; (case hd => rfl); (case hg => rfl); (case hr => first | (go_simp; done) | (go_simp; rfl)); intro gbo hg wb hbox hb; have n0_ := Aside0.mk (below_step (by repeat (first | (with_reducible first | exact HB.out | apply below_alloc | apply pw_below_drewN | apply below_drew1) | exact HB.out)) hb); have n1_ := Aside0.mk hbox; have n2_ := Aside0.mk ((by rw [hg]; exact (below_size (by repeat (first | (with_reducible first | exact HB.out | apply below_alloc | apply pw_below_drewN | apply below_drew1) | exact HB.out)))) : w.heap.size ≤ gbo); clear HB; have HB := n0_; have BKO := n1_; have GEO := n2_; clear n0_ n1_ n2_; clear hb hbox hg; have hcz0 : wb.cell? ⟨gbo, 0, none⟩ = some (.pointer none) := (blk_cell BKO.out 0).trans rfl; have hcz1 : wb.cell? ⟨gbo, 1, none⟩ = some (.slice none 0 0) := (blk_cell BKO.out 1).trans rfl; have hfz0 := blk_frozen BKO.out 0; have hfz1 := blk_frozen BKO.out 1))
        have n0_ : Aside0 (((wb.setCell ⟨gbo, 0, none⟩ (.pointer none)).setCell ⟨gbo, 1, none⟩ (.slice none 0 0)).heap[gbo]? = some (.cells #[.pointer none, .slice none 0 0] 56 (0, 0))) := ⟨by refine blk_put (cs := #[.pointer none, .slice none 0 0]) ?_ 1 _ rfl; refine blk_put (cs := #[.pointer none, .slice none 0 0]) ?_ 0 _ rfl; exact BKO.out⟩
        have n1_ : Aside0 (Below w.heap.size w ((wb.setCell ⟨gbo, 0, none⟩ (.pointer none)).setCell ⟨gbo, 1, none⟩ (.slice none 0 0))) := ⟨by repeat (first | (with_reducible first | exact HB.out | apply below_alloc | apply pw_below_drewN | apply below_drew1 | refine below_set ?_ GEO.out) | exact HB.out)⟩
        clear BKO HB hcz0 hcz1 hfz0 hfz1
        generalize ((wb.setCell ⟨gbo, 0, none⟩ (.pointer none)).setCell ⟨gbo, 1, none⟩ (.slice none 0 0)) = wc at n0_ n1_ ⊢
        have HB := n1_
        have IB : Aside0 (BF w.heap.size gbo ⟨#[]⟩ wc) := ⟨bf_fresh n0_.out GEO.out⟩
        clear n0_ n1_
        try go_wp2
        go_loopg [16] kj1 (fun kq v16 w' => ∃ (x3_2 : ByteArray) (x16_2 : Int), v16 = .int .i64 x16_2 ∧ Aside0 (impl_PushesText.l0 kq x3_2 l0 (l0.length : Int) x16_2 = some r) ∧ Aside0 (kq ≤ kj1) ∧ Aside0 (Below w.heap.size w w') ∧ Aside0 (BF w.heap.size gbo x3_2 w'))
        case atStart => exact ⟨((⟨#[]⟩ : ByteArray)), (0), (by first | rfl | (simp; done) | (simp [*]; done) | (exact congrArg (Value.int .i64) (wrap_eq (by omega)))), H', ⟨Nat.le_refl _⟩, ⟨by repeat (first | (with_reducible first | exact HB.out | apply below_alloc | apply pw_below_drewN | apply below_drew1) | exact HB.out)⟩, ⟨(by repeat (first | (with_reducible exact IB.out) | apply bf_drewN | apply bf_drew))⟩⟩
        case round =>
          clear H'
          try clear p2
          try clear c3
          try clear c3b0
          try clear c3b1
          try clear c6
          try clear p2
          obtain ⟨x3_2, x16_2, rfl, HA, HK2, HB, IB⟩ := hrel
          cases gk with
          | zero => exact absurd HA.out (by simp [impl_PushesText.l0])
          | succ k2 =>
            have H := HA.out
            clear HA
            simp only [impl_PushesText.l0] at H
            by_cases c7 : x16_2 < (l0.length : Int)
            · rw [if_pos c7] at H
              have c7b0 : decide (x16_2 < (l0.length : Int)) = true := decide_eq_true c7
              clear c7
              by_cases c8 : 0 ≤ x16_2
              · rw [if_pos c8] at H
                have c8b0 : decide (0 ≤ x16_2) = true := decide_eq_true c8
                clear c8
                by_cases c9 : x16_2 < (l0.length : Int)
                · rw [if_pos c9] at H
                  have c9b0 : decide (x16_2 < (l0.length : Int)) = true := decide_eq_true c9
                  clear c9
                  replace H := Option.bind_eq_some_iff.mp H
                  obtain ⟨t179, A100, H⟩ := H
                  replace H : (if t179.size + 1 ≤ 9223372036854775807 then ((impl_sideNames.f).bind fun t180 => (if 0 ≤ ((rd_T46 l0 x16_2).f1) then (if ((rd_T46 l0 x16_2).f1) < (t180.length : Int) then (if t179.size + 1 + (rdOf ByteArray.empty t180 ((rd_T46 l0 x16_2).f1)).size ≤ 9223372036854775807 then (if t179.size + 1 + (rdOf ByteArray.empty t180 ((rd_T46 l0 x16_2).f1)).size + 1 ≤ 9223372036854775807 then ((impl_decimal_int16.f ((rd_T46 l0 x16_2).f2)).bind fun t184 => (if t179.size + 1 + (rdOf ByteArray.empty t180 ((rd_T46 l0 x16_2).f1)).size + 1 + t184.size ≤ 9223372036854775807 then (if t179.size + 1 + (rdOf ByteArray.empty t180 ((rd_T46 l0 x16_2).f1)).size + 1 + t184.size + 1 ≤ 9223372036854775807 then (if x3_2.size + t179.size + 1 + (rdOf ByteArray.empty t180 ((rd_T46 l0 x16_2).f1)).size + 1 + t184.size + 1 ≤ 140737488355328 then (impl_PushesText.l0 k2 (x3_2 ++ (((((t179 ++ (⟨#[32]⟩ : ByteArray)) ++ (rdOf ByteArray.empty t180 ((rd_T46 l0 x16_2).f1))) ++ (⟨#[32]⟩ : ByteArray)) ++ t184) ++ (⟨#[10]⟩ : ByteArray))) l0 (l0.length : Int) (wrap64 (x16_2 + 1))) else (none)) else (none)) else (none))) else (none)) else (none)) else (none)) else (none))) else (none)) = some r := H
                  have A10 := Aside0.mk A100
                  clear A100
                  by_cases c11 : t179.size + 1 ≤ 9223372036854775807
                  · rw [if_pos c11] at H
                    have c11b0 := eq_true c11
                    have c11b1 : decide (t179.size + 1 ≤ 9223372036854775807) = true := decide_eq_true c11
                    try have c11b2 : (9223372036854775807 < t179.size + 1) = False := eq_false (Nat.not_lt.2 c11)
                    replace H := Option.bind_eq_some_iff.mp H
                    obtain ⟨t180, A120, H⟩ := H
                    replace H : (if 0 ≤ ((rd_T46 l0 x16_2).f1) then (if ((rd_T46 l0 x16_2).f1) < (t180.length : Int) then (if t179.size + 1 + (rdOf ByteArray.empty t180 ((rd_T46 l0 x16_2).f1)).size ≤ 9223372036854775807 then (if t179.size + 1 + (rdOf ByteArray.empty t180 ((rd_T46 l0 x16_2).f1)).size + 1 ≤ 9223372036854775807 then ((impl_decimal_int16.f ((rd_T46 l0 x16_2).f2)).bind fun t184 => (if t179.size + 1 + (rdOf ByteArray.empty t180 ((rd_T46 l0 x16_2).f1)).size + 1 + t184.size ≤ 9223372036854775807 then (if t179.size + 1 + (rdOf ByteArray.empty t180 ((rd_T46 l0 x16_2).f1)).size + 1 + t184.size + 1 ≤ 9223372036854775807 then (if x3_2.size + t179.size + 1 + (rdOf ByteArray.empty t180 ((rd_T46 l0 x16_2).f1)).size + 1 + t184.size + 1 ≤ 140737488355328 then (impl_PushesText.l0 k2 (x3_2 ++ (((((t179 ++ (⟨#[32]⟩ : ByteArray)) ++ (rdOf ByteArray.empty t180 ((rd_T46 l0 x16_2).f1))) ++ (⟨#[32]⟩ : ByteArray)) ++ t184) ++ (⟨#[10]⟩ : ByteArray))) l0 (l0.length : Int) (wrap64 (x16_2 + 1))) else (none)) else (none)) else (none))) else (none)) else (none)) else (none)) else (none)) = some r := H
                    have A12 := Aside0.mk A120
                    clear A120
                    by_cases c13 : 0 ≤ ((rd_T46 l0 x16_2).f1)
                    · rw [if_pos c13] at H
                      have c13b0 : decide (0 ≤ ((rd_T46 l0 x16_2).f1)) = true := decide_eq_true c13
                      clear c13
                      by_cases c14 : ((rd_T46 l0 x16_2).f1) < (t180.length : Int)
                      · rw [if_pos c14] at H
                        have c14b0 : decide (((rd_T46 l0 x16_2).f1) < (t180.length : Int)) = true := decide_eq_true c14
                        clear c14
                        by_cases c15 : t179.size + 1 + (rdOf ByteArray.empty t180 ((rd_T46 l0 x16_2).f1)).size ≤ 9223372036854775807
                        · rw [if_pos c15] at H
                          have c15b0 := eq_true c15
                          have c15b1 : decide (t179.size + 1 + (rdOf ByteArray.empty t180 ((rd_T46 l0 x16_2).f1)).size ≤ 9223372036854775807) = true := decide_eq_true c15
                          try have c15b2 : (9223372036854775807 < t179.size + 1 + (rdOf ByteArray.empty t180 ((rd_T46 l0 x16_2).f1)).size) = False := eq_false (Nat.not_lt.2 c15)
                          by_cases c16 : t179.size + 1 + (rdOf ByteArray.empty t180 ((rd_T46 l0 x16_2).f1)).size + 1 ≤ 9223372036854775807
                          · rw [if_pos c16] at H
                            have c16b0 := eq_true c16
                            have c16b1 : decide (t179.size + 1 + (rdOf ByteArray.empty t180 ((rd_T46 l0 x16_2).f1)).size + 1 ≤ 9223372036854775807) = true := decide_eq_true c16
                            try have c16b2 : (9223372036854775807 < t179.size + 1 + (rdOf ByteArray.empty t180 ((rd_T46 l0 x16_2).f1)).size + 1) = False := eq_false (Nat.not_lt.2 c16)
                            replace H := Option.bind_eq_some_iff.mp H
                            obtain ⟨t184, A170, H⟩ := H
                            replace H : (if t179.size + 1 + (rdOf ByteArray.empty t180 ((rd_T46 l0 x16_2).f1)).size + 1 + t184.size ≤ 9223372036854775807 then (if t179.size + 1 + (rdOf ByteArray.empty t180 ((rd_T46 l0 x16_2).f1)).size + 1 + t184.size + 1 ≤ 9223372036854775807 then (if x3_2.size + t179.size + 1 + (rdOf ByteArray.empty t180 ((rd_T46 l0 x16_2).f1)).size + 1 + t184.size + 1 ≤ 140737488355328 then (impl_PushesText.l0 k2 (x3_2 ++ (((((t179 ++ (⟨#[32]⟩ : ByteArray)) ++ (rdOf ByteArray.empty t180 ((rd_T46 l0 x16_2).f1))) ++ (⟨#[32]⟩ : ByteArray)) ++ t184) ++ (⟨#[10]⟩ : ByteArray))) l0 (l0.length : Int) (wrap64 (x16_2 + 1))) else (none)) else (none)) else (none)) = some r := H
                            have A17 := Aside0.mk A170
                            clear A170
                            by_cases c18 : t179.size + 1 + (rdOf ByteArray.empty t180 ((rd_T46 l0 x16_2).f1)).size + 1 + t184.size ≤ 9223372036854775807
                            · rw [if_pos c18] at H
                              have c18b0 := eq_true c18
                              have c18b1 : decide (t179.size + 1 + (rdOf ByteArray.empty t180 ((rd_T46 l0 x16_2).f1)).size + 1 + t184.size ≤ 9223372036854775807) = true := decide_eq_true c18
                              try have c18b2 : (9223372036854775807 < t179.size + 1 + (rdOf ByteArray.empty t180 ((rd_T46 l0 x16_2).f1)).size + 1 + t184.size) = False := eq_false (Nat.not_lt.2 c18)
                              by_cases c19 : t179.size + 1 + (rdOf ByteArray.empty t180 ((rd_T46 l0 x16_2).f1)).size + 1 + t184.size + 1 ≤ 9223372036854775807
                              · rw [if_pos c19] at H
                                have c19b0 := eq_true c19
                                have c19b1 : decide (t179.size + 1 + (rdOf ByteArray.empty t180 ((rd_T46 l0 x16_2).f1)).size + 1 + t184.size + 1 ≤ 9223372036854775807) = true := decide_eq_true c19
                                try have c19b2 : (9223372036854775807 < t179.size + 1 + (rdOf ByteArray.empty t180 ((rd_T46 l0 x16_2).f1)).size + 1 + t184.size + 1) = False := eq_false (Nat.not_lt.2 c19)
                                by_cases c20 : x3_2.size + t179.size + 1 + (rdOf ByteArray.empty t180 ((rd_T46 l0 x16_2).f1)).size + 1 + t184.size + 1 ≤ 140737488355328
                                · rw [if_pos c20] at H
                                  have c20b0 := eq_true c20
                                  have c20b1 : decide (x3_2.size + t179.size + 1 + (rdOf ByteArray.empty t180 ((rd_T46 l0 x16_2).f1)).size + 1 + t184.size + 1 ≤ 140737488355328) = true := decide_eq_true c20
                                  try have c20b2 : (9223372036854775807 < x3_2.size + t179.size + 1 + (rdOf ByteArray.empty t180 ((rd_T46 l0 x16_2).f1)).size + 1 + t184.size + 1) = False := eq_false (Nat.not_lt.2 c20)
                                  have H' := Aside0.mk H
                                  clear H
                                  have p177 : 0 ≤ (x16_2 : Int) := of_decide_eq_true (by first | (with_reducible assumption) | assumption)
                                  have q177 : x16_2 < (l0.length : Int) := of_decide_eq_true (by first | (with_reducible assumption) | assumption)
                                  obtain ⟨ad177, e177, hx177_0, hx177_1, hx177_2, hx177_3⟩ := at_T46 HR0.out x16_2 p177 q177
                                  cases e177
                                  replace hx177_0 := (HB.out.cell (World.block_lt_of_cell? w _ hx177_0)).trans hx177_0
                                  replace hx177_1 := (HB.out.cell (World.block_lt_of_cell? w _ hx177_1)).trans hx177_1
                                  replace hx177_2 := (HB.out.cell (World.block_lt_of_cell? w _ hx177_2)).trans hx177_2
                                  replace hx177_3 := (HB.out.cell (World.block_lt_of_cell? w _ hx177_3)).trans hx177_3
                                  replace p177 := eq_true p177
                                  replace q177 := eq_true q177
                                  try go_wp2_with (first | ((with_reducible refine gate_dst (N := 5) rfl ?_); refine box_event ?hg (N := 5) ?hd (cs := #[.int .i8 0, .int .i8 0, .int .i8 0, .int .i16 0]) (t := 46) ?hr ?_; (case hd => rfl); (case hg => rfl); (case hr => first | (go_simp; done) | (go_simp; rfl)); intro gb178 hg w21 hbox hb; have n0_ := Aside0.mk (below_step (by repeat (first | (with_reducible first | exact HB.out | apply below_alloc | apply pw_below_drewN | apply below_drew1) | exact HB.out)) hb); have n1_ := Aside0.mk (hbox); have n2_ := Aside0.mk ((by rw [hg]; exact (below_size (by repeat (first | (with_reducible first | exact HB.out | apply below_alloc | apply pw_below_drewN | apply below_drew1) | exact HB.out))) : w.heap.size ≤ gb178)); have n3_ := Aside0.mk ((by rw [hg]; exact (below_size (by repeat (first | (with_reducible first | exact HB.out | apply below_alloc | apply pw_below_drewN | apply below_drew1) | exact HB.out))) : w.heap.size ≤ gb178)); clear HB; have HB := n0_; have BK178 := n1_; have GW178 := n2_; have GE178 := n3_; clear n0_ n1_ n2_ n3_; have nI_ := Aside0.mk (bf_below (by repeat (first | (with_reducible exact IB.out) | apply bf_drewN | apply bf_drew)) hb); clear IB; have IB := nI_; clear nI_; clear hb hbox hg; have hcz22_0 : w21.cell? ⟨gb178, 0, none⟩ = some (.int .i8 0) := (blk_cell BK178.out 0).trans rfl; have hcz22_1 : w21.cell? ⟨gb178, 1, none⟩ = some (.int .i8 0) := (blk_cell BK178.out 1).trans rfl; have hcz22_2 : w21.cell? ⟨gb178, 2, none⟩ = some (.int .i8 0) := (blk_cell BK178.out 2).trans rfl; have hcz22_3 : w21.cell? ⟨gb178, 3, none⟩ = some (.int .i16 0) := (blk_cell BK178.out 3).trans rfl; have hfz22_0 := blk_frozen BK178.out 0; have hfz22_1 := blk_frozen BK178.out 1; have hfz22_2 := blk_frozen BK178.out 2; have hfz22_3 := blk_frozen BK178.out 3))
                                  have n0_ : Aside0 (((((w21.setCell ⟨gb178, 0, none⟩ (.int .i8 ((rd_T46 l0 x16_2).f0.f0))).setCell ⟨gb178, 1, none⟩ (.int .i8 ((rd_T46 l0 x16_2).f0.f1))).setCell ⟨gb178, 2, none⟩ (.int .i8 ((rd_T46 l0 x16_2).f1))).setCell ⟨gb178, 3, none⟩ (.int .i16 ((rd_T46 l0 x16_2).f2))).heap[gb178]? = some (.cells #[.int .i8 ((rd_T46 l0 x16_2).f0.f0), .int .i8 ((rd_T46 l0 x16_2).f0.f1), .int .i8 ((rd_T46 l0 x16_2).f1), .int .i16 ((rd_T46 l0 x16_2).f2)] 46 (0, 0))) := ⟨by (with_reducible repeat (first | refine blk_drewN ?_ _ | refine blk_drew ?_ | refine blk_alloc ?_ _)); refine blk_put (cs := #[.int .i8 ((rd_T46 l0 x16_2).f0.f0), .int .i8 ((rd_T46 l0 x16_2).f0.f1), .int .i8 ((rd_T46 l0 x16_2).f1), .int .i16 0]) ?_ 3 _ rfl; (with_reducible repeat (first | refine blk_drewN ?_ _ | refine blk_drew ?_ | refine blk_alloc ?_ _)); refine blk_put (cs := #[.int .i8 ((rd_T46 l0 x16_2).f0.f0), .int .i8 ((rd_T46 l0 x16_2).f0.f1), .int .i8 0, .int .i16 0]) ?_ 2 _ rfl; (with_reducible repeat (first | refine blk_drewN ?_ _ | refine blk_drew ?_ | refine blk_alloc ?_ _)); refine blk_put (cs := #[.int .i8 ((rd_T46 l0 x16_2).f0.f0), .int .i8 0, .int .i8 0, .int .i16 0]) ?_ 1 _ rfl; (with_reducible repeat (first | refine blk_drewN ?_ _ | refine blk_drew ?_ | refine blk_alloc ?_ _)); refine blk_put (cs := #[.int .i8 0, .int .i8 0, .int .i8 0, .int .i16 0]) ?_ 0 _ rfl; (with_reducible repeat (first | refine blk_drewN ?_ _ | refine blk_drew ?_ | refine blk_alloc ?_ _)); exact BK178.out⟩
                                  have n1_ : Aside0 (Below w.heap.size w ((((w21.setCell ⟨gb178, 0, none⟩ (.int .i8 ((rd_T46 l0 x16_2).f0.f0))).setCell ⟨gb178, 1, none⟩ (.int .i8 ((rd_T46 l0 x16_2).f0.f1))).setCell ⟨gb178, 2, none⟩ (.int .i8 ((rd_T46 l0 x16_2).f1))).setCell ⟨gb178, 3, none⟩ (.int .i16 ((rd_T46 l0 x16_2).f2)))) := ⟨by repeat (first | (with_reducible first | exact HB.out | apply below_alloc | apply pw_below_drewN | apply below_drew1 | refine below_set ?_ GE178.out) | exact HB.out)⟩
                                  have nI_ : Aside0 (BF w.heap.size gbo x3_2 ((((w21.setCell ⟨gb178, 0, none⟩ (.int .i8 ((rd_T46 l0 x16_2).f0.f0))).setCell ⟨gb178, 1, none⟩ (.int .i8 ((rd_T46 l0 x16_2).f0.f1))).setCell ⟨gb178, 2, none⟩ (.int .i8 ((rd_T46 l0 x16_2).f1))).setCell ⟨gb178, 3, none⟩ (.int .i16 ((rd_T46 l0 x16_2).f2)))) := ⟨by have q_ : BF w.heap.size gbo x3_2 w21 ∧ Ty gb178 46 w21 := ⟨IB.out, _, _, BK178.out⟩; exact (bf_set (bf_set (bf_set (bf_set q_ (by decide) (by decide) _ _) (by decide) (by decide) _ _) (by decide) (by decide) _ _) (by decide) (by decide) _ _).1⟩
                                  (try clear BK178)
                                  (try clear HB)
                                  generalize ((((w21.setCell ⟨gb178, 0, none⟩ (.int .i8 ((rd_T46 l0 x16_2).f0.f0))).setCell ⟨gb178, 1, none⟩ (.int .i8 ((rd_T46 l0 x16_2).f0.f1))).setCell ⟨gb178, 2, none⟩ (.int .i8 ((rd_T46 l0 x16_2).f1))).setCell ⟨gb178, 3, none⟩ (.int .i16 ((rd_T46 l0 x16_2).f2))) = w23 at n0_ n1_ nI_ ⊢
                                  replace IB := nI_
                                  clear nI_
                                  have BK178 := n0_
                                  have HB := n1_
                                  clear n0_ n1_
                                  have n0_ := Aside0.mk (blk_drew BK178.out)
                                  have n1_ := Aside0.mk (below_drew1 HB.out)
                                  clear BK178
                                  clear HB
                                  have BK178 := n0_
                                  have HB := n1_
                                  clear n0_ n1_
                                  replace IB := Aside0.mk (bf_drew IB.out)
                                  refine start_ (n := 17) (S := fun w' => w'.cell? ⟨gb178, 0, none⟩ = some (.int .i8 ((rd_T46 l0 x16_2).f0.f0)) ∧ w'.cell? ⟨gb178, 1, none⟩ = some (.int .i8 ((rd_T46 l0 x16_2).f0.f1)) ∧ w'.cell? ⟨gb178, 2, none⟩ = some (.int .i8 ((rd_T46 l0 x16_2).f1)) ∧ w'.cell? ⟨gb178, 3, none⟩ = some (.int .i16 ((rd_T46 l0 x16_2).f2))) (ds := []) #[false, false, false, false, false, false, false, false, false, false, false, false, false, false, false, false, false] (by kernel_rfl) rfl rfl ⟨(blk_cell BK178.out 0).trans rfl, (blk_cell BK178.out 1).trans rfl, (blk_cell BK178.out 2).trans rfl, (blk_cell BK178.out 3).trans rfl⟩ (fun hHeld => ?_); refine with_tabW impl_PushesText.tab7 impl_PushesText.bits7 (fun HT_ HW_ => ?_)
                                  generalize w23.drew = w24 at BK178 HB IB hHeld ⊢
                                  refine pure_ (i := 0) (N := some 20) (v := ?_) (a' := ?_) #[true, false, false, false, false, false, false, false, false, false, false, false, false, false, false, false, false] rfl rfl (any_of HT_.out (by kernel_rfl)) (fun _ _ _ h => h) (Or.inl ⟨by rfl, ?_⟩) ?_ ?_
                                  rotate_left
                                  · intro w'
                                    go_simp
                                    with_reducible rfl
                                  rotate_left
                                  · simp only [Act.put, List.setIfInBounds_toArray, List.set_cons_zero, List.set_cons_succ, i64_w, i32_w]
                                    rfl
                                  refine pure_ (i := 5) (N := some 25) (v := ?_) (a' := ?_) #[true, false, false, false, false, true, false, false, false, false, false, false, false, false, false, false, false] rfl rfl (any_of HT_.out (by kernel_rfl)) (fun _ _ _ h => h) (Or.inl ⟨by rfl, ?_⟩) ?_ ?_
                                  rotate_left
                                  · intro w'
                                    go_simp
                                    with_reducible rfl
                                  rotate_left
                                  · simp only [Act.put, List.setIfInBounds_toArray, List.set_cons_zero, List.set_cons_succ, i64_w, i32_w]
                                    rfl
                                  refine pure_ (i := 11) (N := some 31) (v := ?_) (a' := ?_) #[true, false, false, false, false, true, false, false, false, false, false, true, false, false, false, false, false] rfl rfl (any_of HT_.out (by kernel_rfl)) (fun _ _ _ h => h) (Or.inl ⟨by rfl, ?_⟩) ?_ ?_
                                  rotate_left
                                  · intro w'
                                    go_simp
                                    with_reducible rfl
                                  rotate_left
                                  · simp only [Act.put, List.setIfInBounds_toArray, List.set_cons_zero, List.set_cons_succ, i64_w, i32_w]
                                    rfl
                                  refine take_ (i := 1) (N := some 21) (v := ?_) (a' := ?_) #[true, true, false, false, false, true, false, false, false, false, false, true, false, false, false, false, false] rfl rfl (take_ofW HT_.out HW_.out (by kernel_rfl)) (fun _ _ _ h => h) (Or.inl ⟨by rfl, ?_⟩) hHeld ?_ ?_
                                  rotate_left
                                  · rintro w' ⟨s0, s1, s2, s3⟩
                                    go_simp
                                    with_reducible rfl
                                  rotate_left
                                  · simp only [Act.put, List.setIfInBounds_toArray, List.set_cons_zero, List.set_cons_succ, i64_w, i32_w]
                                    rfl
                                  refine take_ (i := 6) (N := some 26) (v := ?_) (a' := ?_) #[true, true, false, false, false, true, true, false, false, false, false, true, false, false, false, false, false] rfl rfl (take_ofW HT_.out HW_.out (by kernel_rfl)) (fun _ _ _ h => h) (Or.inl ⟨by rfl, ?_⟩) hHeld ?_ ?_
                                  rotate_left
                                  · rintro w' ⟨s0, s1, s2, s3⟩
                                    go_simp
                                    with_reducible rfl
                                  rotate_left
                                  · simp only [Act.put, List.setIfInBounds_toArray, List.set_cons_zero, List.set_cons_succ, i64_w, i32_w]
                                    rfl
                                  refine take_ (i := 12) (N := some 32) (v := ?_) (a' := ?_) #[true, true, false, false, false, true, true, false, false, false, false, true, true, false, false, false, false] rfl rfl (take_ofW HT_.out HW_.out (by kernel_rfl)) (fun _ _ _ h => h) (Or.inl ⟨by rfl, ?_⟩) hHeld ?_ ?_
                                  rotate_left
                                  · rintro w' ⟨s0, s1, s2, s3⟩
                                    go_simp
                                    with_reducible rfl
                                  rotate_left
                                  · simp only [Act.put, List.setIfInBounds_toArray, List.set_cons_zero, List.set_cons_succ, i64_w, i32_w]
                                    rfl
                                  refine one_ (i := 2) (N := some 22) #[true, true, true, false, false, true, true, false, false, false, false, true, true, false, false, false, false] rfl rfl (one_of HT_.out (by kernel_rfl)) (by decide) (fun K hK => ?_)
                                  refine goes_ Tryd.func23 (by kernel_rfl) rfl #[.agg #[.int .i8 ((rd_T46 l0 x16_2).f0.f0), .int .i8 ((rd_T46 l0 x16_2).f0.f1)]] (by rfl) rfl rfl (by (try simp only [List.map_toArray, List.map_cons, List.map_nil]); first | done | rfl | (simp only [List.length_drop, List.length_take]; rfl)) ?_
                                  with_reducible refine (impl_Cell_text.calls ((rd_T46 l0 x16_2).f0.f0) ((rd_T46 l0 x16_2).f0.f1) t179 _ A10.out).mono ?_
                                  rintro e w25 ⟨rfl, hb⟩
                                  replace IB := Aside0.mk (bf_below (by repeat (first | (with_reducible exact IB.out) | apply bf_drewN | apply bf_drew)) hb)
                                  refine ⟨_, rfl, ?_⟩
                                  have n0_ := Aside0.mk (blk_below (g := gb178) (o := .cells #[.int .i8 ((rd_T46 l0 x16_2).f0.f0), .int .i8 ((rd_T46 l0 x16_2).f0.f1), .int .i8 ((rd_T46 l0 x16_2).f1), .int .i16 ((rd_T46 l0 x16_2).f2)] 46 (0, 0)) (by (with_reducible repeat (first | refine blk_drewN ?_ _ | refine blk_drew ?_ | refine blk_alloc ?_ _)); exact BK178.out) hb)
                                  have n1_ := Aside0.mk (below_step (by repeat (first | (with_reducible first | exact HB.out | apply below_alloc | apply pw_below_drewN | apply below_drew1 | refine below_set ?_ GE178.out) | exact HB.out)) hb)
                                  clear BK178
                                  clear HB
                                  have BK178 := n0_
                                  have HB := n1_
                                  clear n0_ n1_
                                  (try clear hb)
                                  (try clear hb2)
                                  (try clear hk)
                                  (try clear hi)
                                  refine hK.out _ _ ⟨(blk_cell BK178.out 0).trans rfl, (blk_cell BK178.out 1).trans rfl, (blk_cell BK178.out 2).trans rfl, (blk_cell BK178.out 3).trans rfl⟩ (fun hHeld => ?_)
                                  clear hK K
                                  refine norm_ (a' := ?_) ?_ ?_
                                  rotate_left
                                  · show Act.put _ (some 22) _ = _
                                    simp only [Act.put, List.setIfInBounds_toArray, List.set_cons_zero, List.set_cons_succ, i64_w, i32_w]
                                    rfl
                                  refine pure_ (i := 3) (N := some 23) (v := ?_) (a' := ?_) #[true, true, true, true, false, true, true, false, false, false, false, true, true, false, false, false, false] rfl rfl (any_of HT_.out (by kernel_rfl)) (fun _ _ _ h => h) (Or.inl ⟨by rfl, ?_⟩) ?_ ?_
                                  rotate_left
                                  · intro w'
                                    go_simp
                                    with_reducible rfl
                                  rotate_left
                                  · simp only [Act.put, List.setIfInBounds_toArray, List.set_cons_zero, List.set_cons_succ, i64_w, i32_w]
                                    rfl
                                  refine one_ (i := 4) (N := some 24) #[true, true, true, true, true, true, true, false, false, false, false, true, true, false, false, false, false] rfl rfl (one_of HT_.out (by kernel_rfl)) (by decide) (fun K hK => ?_)
                                  refine goes_ Tryd.func24 (by kernel_rfl) rfl #[] (by rfl) rfl rfl (by (try simp only [List.map_toArray, List.map_cons, List.map_nil]); first | done | rfl | (simp only [List.length_drop, List.length_take]; rfl)) ?_
                                  with_reducible refine (impl_sideNames.calls  t180 _ A12.out).mono ?_
                                  rintro e w26 ⟨v181, rfl, ho0, hb⟩
                                  replace IB := Aside0.mk (bf_below (by repeat (first | (with_reducible exact IB.out) | apply bf_drewN | apply bf_drew)) hb)
                                  refine ⟨_, rfl, ?_⟩
                                  have n0_ := Aside0.mk (Kd.R_lower ho0 (below_size (by repeat (first | (with_reducible first | exact HB.out | apply below_alloc | apply pw_below_drewN | apply below_drew1 | refine below_set ?_ GE178.out) | exact HB.out))))
                                  have n1_ := Aside0.mk (blk_below (g := gb178) (o := .cells #[.int .i8 ((rd_T46 l0 x16_2).f0.f0), .int .i8 ((rd_T46 l0 x16_2).f0.f1), .int .i8 ((rd_T46 l0 x16_2).f1), .int .i16 ((rd_T46 l0 x16_2).f2)] 46 (0, 0)) (by (with_reducible repeat (first | refine blk_drewN ?_ _ | refine blk_drew ?_ | refine blk_alloc ?_ _)); exact BK178.out) hb)
                                  have n2_ := Aside0.mk (below_step (by repeat (first | (with_reducible first | exact HB.out | apply below_alloc | apply pw_below_drewN | apply below_drew1 | refine below_set ?_ GE178.out) | exact HB.out)) hb)
                                  clear BK178
                                  clear HB
                                  have HO182 := n0_
                                  have BK178 := n1_
                                  have HB := n2_
                                  clear n0_ n1_ n2_
                                  (try clear hb)
                                  (try clear hb2)
                                  (try clear hk)
                                  (try clear hi)
                                  (try clear ho0)
                                  obtain ⟨Ao27, co27, eo27⟩ := Kd.R_slice HO182.out
                                  (first | subst eo27 | (injection eo27 with f1_ f2_ f3_; have f4_ := f1_.symm; have f5_ := f3_.symm; clear f1_ f2_ f3_; subst f4_; subst f5_))
                                  have p183 : 0 ≤ (((rd_T46 l0 x16_2).f1) : Int) := of_decide_eq_true (by first | (with_reducible assumption) | assumption)
                                  have q183 : ((rd_T46 l0 x16_2).f1) < (t180.length : Int) := of_decide_eq_true (by first | (with_reducible assumption) | assumption)
                                  obtain ⟨ad183, e183, hx183_0⟩ := Kd.at_string (Kd.R_reads' HO182.out).2.2 ((rd_T46 l0 x16_2).f1) p183 q183
                                  cases e183
                                  obtain ⟨ocs_, how_, _⟩ := HO182.out.2
                                  obtain ⟨rcs_, hrow0_⟩ := own_typed how_ ad183.block rfl
                                  have hrow_ := Aside0.mk hrow0_
                                  clear hrow0_ how_
                                  replace p183 := eq_true p183
                                  replace q183 := eq_true q183
                                  refine hK.out _ _ ⟨(blk_cell BK178.out 0).trans rfl, (blk_cell BK178.out 1).trans rfl, (blk_cell BK178.out 2).trans rfl, (blk_cell BK178.out 3).trans rfl⟩ (fun hHeld => ?_)
                                  clear hHeld
                                  refine more_ (S' := fun w' => w'.cell? ⟨gb178, 0, none⟩ = some (.int .i8 ((rd_T46 l0 x16_2).f0.f0)) ∧ w'.cell? ⟨gb178, 1, none⟩ = some (.int .i8 ((rd_T46 l0 x16_2).f0.f1)) ∧ w'.cell? ⟨gb178, 2, none⟩ = some (.int .i8 ((rd_T46 l0 x16_2).f1)) ∧ w'.cell? ⟨gb178, 3, none⟩ = some (.int .i16 ((rd_T46 l0 x16_2).f2)) ∧ w'.cell? (ad183.add (((rd_T46 l0 x16_2).f1)).toNat) = some (.string (rdOf ByteArray.empty t180 ((rd_T46 l0 x16_2).f1)))) (fun w' ⟨s0, s1, s2, s3, s4⟩ => ⟨s0, s1, s2, s3⟩) ⟨(blk_cell BK178.out 0).trans rfl, (blk_cell BK178.out 1).trans rfl, (blk_cell BK178.out 2).trans rfl, (blk_cell BK178.out 3).trans rfl, hx183_0⟩ (fun hHeld => ?_)
                                  clear hK K
                                  refine norm_ (a' := ?_) ?_ ?_
                                  rotate_left
                                  · show Act.put _ (some 24) _ = _
                                    simp only [Act.put, List.setIfInBounds_toArray, List.set_cons_zero, List.set_cons_succ, i64_w, i32_w]
                                    rfl
                                  refine pure_ (i := 7) (N := some 27) (v := ?_) (a' := ?_) #[true, true, true, true, true, true, true, true, false, false, false, true, true, false, false, false, false] rfl rfl (any_of HT_.out (by kernel_rfl)) (fun _ _ _ h => h) (Or.inl ⟨by rfl, ?_⟩) ?_ ?_
                                  rotate_left
                                  · intro w'
                                    go_simp
                                    with_reducible rfl
                                  rotate_left
                                  · simp only [Act.put, List.setIfInBounds_toArray, List.set_cons_zero, List.set_cons_succ, i64_w, i32_w]
                                    rfl
                                  refine take_ (i := 8) (N := some 28) (v := ?_) (a' := ?_) #[true, true, true, true, true, true, true, true, true, false, false, true, true, false, false, false, false] rfl rfl (take_ofW HT_.out HW_.out (by kernel_rfl)) (fun _ _ _ h => h) (Or.inl ⟨by rfl, ?_⟩) hHeld ?_ ?_
                                  rotate_left
                                  · rintro w' ⟨s0, s1, s2, s3, s4⟩
                                    go_simp
                                    with_reducible rfl
                                  rotate_left
                                  · simp only [Act.put, List.setIfInBounds_toArray, List.set_cons_zero, List.set_cons_succ, i64_w, i32_w]
                                    rfl
                                  refine pure_ (i := 9) (N := some 29) (v := ?_) (a' := ?_) #[true, true, true, true, true, true, true, true, true, true, false, true, true, false, false, false, false] rfl rfl (any_of HT_.out (by kernel_rfl)) (fun _ _ _ h => h) (Or.inl ⟨by rfl, ?_⟩) ?_ ?_
                                  rotate_left
                                  · intro w'
                                    go_simp
                                    with_reducible rfl
                                  rotate_left
                                  · simp only [Act.put, List.setIfInBounds_toArray, List.set_cons_zero, List.set_cons_succ, i64_w, i32_w]
                                    rfl
                                  refine pure_ (i := 10) (N := some 30) (v := ?_) (a' := ?_) #[true, true, true, true, true, true, true, true, true, true, true, true, true, false, false, false, false] rfl rfl (any_of HT_.out (by kernel_rfl)) (fun _ _ _ h => h) (Or.inl ⟨by rfl, ?_⟩) ?_ ?_
                                  rotate_left
                                  · intro w'
                                    go_simp
                                    with_reducible rfl
                                  rotate_left
                                  · simp only [Act.put, List.setIfInBounds_toArray, List.set_cons_zero, List.set_cons_succ, i64_w, i32_w]
                                    rfl
                                  refine one_ (i := 13) (N := some 33) #[true, true, true, true, true, true, true, true, true, true, true, true, true, true, false, false, false] rfl rfl (one_of HT_.out (by kernel_rfl)) (by decide) (fun K hK => ?_)
                                  refine goes_ Tryd.func25 (by kernel_rfl) rfl #[.int .i16 ((rd_T46 l0 x16_2).f2)] (by rfl) rfl rfl (by (try simp only [List.map_toArray, List.map_cons, List.map_nil]); first | done | rfl | (simp only [List.length_drop, List.length_take]; rfl)) ?_
                                  with_reducible refine (impl_decimal_int16.calls ((rd_T46 l0 x16_2).f2) t184 _ A17.out (tb_below HT0.out (by repeat (first | (with_reducible first | exact HB.out | apply below_alloc | apply pw_below_drewN | apply below_drew1) | exact HB.out)))).mono ?_
                                  rintro e w28 ⟨rfl, hb⟩
                                  replace IB := Aside0.mk (bf_below (by repeat (first | (with_reducible exact IB.out) | apply bf_drewN | apply bf_drew)) hb)
                                  replace hrow_ := Aside0.mk (blk_below (by (with_reducible repeat (first | refine blk_drewN ?_ _ | refine blk_drew ?_ | refine blk_alloc ?_ _)); exact hrow_.out) hb)
                                  have HS4_ := (hb.cell (World.block_lt_of_cell? _ _ (hHeld.2.2.2.2))).trans (hHeld.2.2.2.2)
                                  refine ⟨_, rfl, ?_⟩
                                  have n0_ := Aside0.mk (Kd.R_below (by (with_reducible repeat (first | apply Kd.R_alloc | apply Kd.R_drewN | apply Kd.R_drew)); exact HO182.out) hb)
                                  have n1_ := Aside0.mk (blk_below (g := gb178) (o := .cells #[.int .i8 ((rd_T46 l0 x16_2).f0.f0), .int .i8 ((rd_T46 l0 x16_2).f0.f1), .int .i8 ((rd_T46 l0 x16_2).f1), .int .i16 ((rd_T46 l0 x16_2).f2)] 46 (0, 0)) (by (with_reducible repeat (first | refine blk_drewN ?_ _ | refine blk_drew ?_ | refine blk_alloc ?_ _)); exact BK178.out) hb)
                                  have n2_ := Aside0.mk (below_step (by repeat (first | (with_reducible first | exact HB.out | apply below_alloc | apply pw_below_drewN | apply below_drew1 | refine below_set ?_ GE178.out) | exact HB.out)) hb)
                                  clear HO182
                                  clear BK178
                                  clear HB
                                  have HO182 := n0_
                                  have BK178 := n1_
                                  have HB := n2_
                                  clear n0_ n1_ n2_
                                  (try clear hb)
                                  (try clear hb2)
                                  (try clear hk)
                                  (try clear hi)
                                  refine hK.out _ _ ⟨(blk_cell BK178.out 0).trans rfl, (blk_cell BK178.out 1).trans rfl, (blk_cell BK178.out 2).trans rfl, (blk_cell BK178.out 3).trans rfl, HS4_⟩ (fun hHeld => ?_)
                                  clear hK K
                                  refine norm_ (a' := ?_) ?_ ?_
                                  rotate_left
                                  · show Act.put _ (some 33) _ = _
                                    simp only [Act.put, List.setIfInBounds_toArray, List.set_cons_zero, List.set_cons_succ, i64_w, i32_w]
                                    rfl
                                  refine pure_ (i := 14) (N := some 34) (v := ?_) (a' := ?_) #[true, true, true, true, true, true, true, true, true, true, true, true, true, true, true, false, false] rfl rfl (any_of HT_.out (by kernel_rfl)) (fun _ _ _ h => h) (Or.inl ⟨by rfl, ?_⟩) ?_ ?_
                                  rotate_left
                                  · intro w'
                                    go_simp
                                    with_reducible rfl
                                  rotate_left
                                  · simp only [Act.put, List.setIfInBounds_toArray, List.set_cons_zero, List.set_cons_succ, i64_w, i32_w]
                                    rfl
                                  refine pure_ (i := 15) (N := some 35) (v := ?_) (a' := ?_) #[true, true, true, true, true, true, true, true, true, true, true, true, true, true, true, true, false] rfl rfl (any_of HT_.out (by kernel_rfl)) (fun _ _ _ h => h) (Or.inl ⟨by rfl, ?_⟩) ?_ ?_
                                  rotate_left
                                  · intro w'
                                    go_simp
                                    with_reducible rfl
                                  rotate_left
                                  · simp only [Act.put, List.setIfInBounds_toArray, List.set_cons_zero, List.set_cons_succ, i64_w, i32_w]
                                    rfl
                                  refine one_ (i := 16) (N := some 36) #[true, true, true, true, true, true, true, true, true, true, true, true, true, true, true, true, true] rfl rfl (one_of HT_.out (by kernel_rfl)) (by decide) (fun K hK => ?_)
                                  refine goes_ Tryd.func22 (by kernel_rfl) rfl #[.pointer (some ⟨gbo, 0, none⟩), .string (((((t179 ++ (⟨#[32]⟩ : ByteArray)) ++ (rdOf ByteArray.empty t180 ((rd_T46 l0 x16_2).f1))) ++ (⟨#[32]⟩ : ByteArray)) ++ t184) ++ (⟨#[10]⟩ : ByteArray))] (by rfl) rfl rfl (by (try simp only [List.map_toArray, List.map_cons, List.map_nil]); first | done | rfl | (simp only [List.length_drop, List.length_take]; rfl)) ?_
                                  refine (builder_write w.heap.size gbo x3_2 (((((t179 ++ (⟨#[32]⟩ : ByteArray)) ++ (rdOf ByteArray.empty t180 ((rd_T46 l0 x16_2).f1))) ++ (⟨#[32]⟩ : ByteArray)) ++ t184) ++ (⟨#[10]⟩ : ByteArray)) _ (by repeat (first | (with_reducible exact IB.out) | apply bf_drewN | apply bf_drew)) (by have q_ := c20; simp only [ByteArray.size_append]; have l0_ : (⟨#[10]⟩ : ByteArray).size = 1 := rfl; have l1_ : (⟨#[32]⟩ : ByteArray).size = 1 := rfl; omega) (below_size (by repeat (first | (with_reducible first | exact HB.out | apply below_alloc | apply pw_below_drewN | apply below_drew1) | exact HB.out)))).mono ?_
                                  rintro e w40 ⟨rfl, hb1, hbel, hoth⟩
                                  have HS5_ := oth_cell hoth (by repeat (first | (with_reducible exact IB.out) | apply bf_drewN | apply bf_drew)) (cs := rcs_) (t := 9) (fz := (0, 0)) (by (with_reducible repeat (first | refine blk_drewN ?_ _ | refine blk_drew ?_ | refine blk_alloc ?_ _)); exact hrow_.out) (by decide) (by decide) (hHeld.2.2.2.2) (add_block _ _)
                                  have n2_ := Aside0.mk (oth_keep hoth (by repeat (first | (with_reducible exact IB.out) | apply bf_drewN | apply bf_drew)) (by (with_reducible repeat (first | refine blk_drewN ?_ _ | refine blk_drew ?_ | refine blk_alloc ?_ _)); exact BK178.out) (by decide) (by decide))
                                  have n0_ := Aside0.mk (Below.trans (by repeat (first | (with_reducible first | exact HB.out | apply below_alloc | apply pw_below_drewN | apply below_drew1) | exact HB.out)) hbel)
                                  have n1_ := Aside0.mk hb1
                                  clear HB IB BK178
                                  have HB := n0_
                                  have IB := n1_
                                  have BK178 := n2_
                                  clear n2_
                                  clear n0_ n1_ hb1 hbel hoth
                                  refine ⟨_, rfl, ?_⟩
                                  refine hK.out _ _ ⟨(blk_cell BK178.out 0).trans rfl, (blk_cell BK178.out 1).trans rfl, (blk_cell BK178.out 2).trans rfl, (blk_cell BK178.out 3).trans rfl, HS5_⟩ (fun hHeld => ?_)
                                  clear hK K
                                  refine norm_ (a' := ?_) ?_ ?_
                                  rotate_left
                                  · show Act.put _ (some 36) _ = _
                                    simp only [Act.put, List.setIfInBounds_toArray, List.set_cons_zero, List.set_cons_succ, i64_w, i32_w]
                                    rfl
                                  refine done_ (done_of HT_.out (by kernel_rfl)) ?_
                                  try go_wp2
                                  go_roundg k2
                                  case measure => have := HJ1.out; have := HK2.out; omega
                                  case rel => exact ⟨(x3_2 ++ (((((t179 ++ (⟨#[32]⟩ : ByteArray)) ++ (rdOf ByteArray.empty t180 ((rd_T46 l0 x16_2).f1))) ++ (⟨#[32]⟩ : ByteArray)) ++ t184) ++ (⟨#[10]⟩ : ByteArray))), (wrap64 (x16_2 + 1)), (by first | rfl | (simp; done) | (simp [*]; done) | (exact congrArg (Value.int .i64) (wrap_eq (by omega)))), H', ⟨by have := HJ1.out; have := HK2.out; omega⟩, ⟨by repeat (first | (with_reducible first | exact HB.out | apply below_alloc | apply pw_below_drewN | apply below_drew1 | refine below_set ?_ GE178.out) | exact HB.out)⟩, ⟨(by repeat (first | (with_reducible exact IB.out) | apply bf_drewN | apply bf_drew))⟩⟩
                                · rw [if_neg c20] at H
                                  exact absurd H (by simp)
                              · rw [if_neg c19] at H
                                exact absurd H (by simp)
                            · rw [if_neg c18] at H
                              exact absurd H (by simp)
                          · rw [if_neg c16] at H
                            exact absurd H (by simp)
                        · rw [if_neg c15] at H
                          exact absurd H (by simp)
                      · rw [if_neg c14] at H
                        exact absurd H (by simp)
                    · rw [if_neg c13] at H
                      exact absurd H (by simp)
                  · rw [if_neg c11] at H
                    exact absurd H (by simp)
                · rw [if_neg c9] at H
                  exact absurd H (by simp)
              · rw [if_neg c8] at H
                exact absurd H (by simp)
            · rw [if_neg c7] at H
              have c7b0 : decide (x16_2 < (l0.length : Int)) = false := decide_eq_false c7
              clear c7
              have hr_ := Option.some.inj H
              go_wp2_with (first | (go_at_call 26; refine (builder_string w.heap.size gbo x3_2 _ (by repeat (first | (with_reducible exact IB.out) | apply bf_drewN | apply bf_drew)) (below_size (by repeat (first | (with_reducible first | exact HB.out | apply below_alloc | apply pw_below_drewN | apply below_drew1) | exact HB.out)))).mono ?_; rintro e w41 ⟨rfl, hbel⟩; have n0_ := Aside0.mk (Below.trans (by repeat (first | (with_reducible first | exact HB.out | apply below_alloc | apply pw_below_drewN | apply below_drew1) | exact HB.out)) hbel); clear HB; have HB := n0_; clear n0_ hbel))
              go_ret
              exact ⟨by first | rfl | (rw [hr_]) | (simp; done) | (simp [hr_]; done), by repeat (first | (with_reducible first | exact HB.out | apply below_alloc | apply pw_below_drewN | apply below_drew1) | exact HB.out)⟩

/-! ### laws_eqCell: function 45 -/
def laws_eqCell.l0 : Nat → Int → Int → Int → Int → Int → Option (Bool)
  | 0, _, _, _, _, _ => none
  | k + 1, x5, x177000, x177001, x178000, x178001 => if x5 < 2 then (if x5 = 0 then (if x177000 = x178000 then (laws_eqCell.l0 k (wrap64 (x5 + 1)) x177000 x177001 x178000 x178001) else (some false)) else (if x5 = 1 then (if x177001 = x178001 then (laws_eqCell.l0 k (wrap64 (x5 + 1)) x177000 x177001 x178000 x178001) else (some false)) else (none))) else (some true)
def laws_eqCell.f (k : Nat) (a0_0 : Int) (a0_1 : Int) (a1_0 : Int) (a1_1 : Int) : Option (Bool) := laws_eqCell.l0 k 0 a0_0 a0_1 a1_0 a1_1
theorem laws_eqCell.mono_l : ∀ k, (∀ y0 y1 y2 y3 y4, LeO (laws_eqCell.l0 k y0 y1 y2 y3 y4) (laws_eqCell.l0 (k + 1) y0 y1 y2 y3 y4))
  | 0 => fun _ _ _ _ _ r h => by simp [laws_eqCell.l0] at h
  | k + 1 => by
    have ih0 := laws_eqCell.mono_l k
    · intro y0 y1 y2 y3 y4
      unfold laws_eqCell.l0
      repeat' first
      | (with_reducible exact ih0 _ _ _ _ _)
      | (with_reducible exact LeO.refl _)
      | (with_reducible exact LeO.none _)
      | (with_reducible refine LeO.ite ?_ ?_)
      | (with_reducible refine LeO.bind ?_ (fun _ => ?_))
      | exact ih0 _ _ _ _ _
      | exact LeO.none _
      | refine LeO.ite ?_ ?_
      | refine LeO.bind ?_ (fun _ => ?_)
theorem laws_eqCell.mono : ∀ a0 a1 a2 a3 k, LeO (laws_eqCell.f k a0 a1 a2 a3) (laws_eqCell.f (k + 1) a0 a1 a2 a3) := by
  intro a0 a1 a2 a3 k
  have ih0 := laws_eqCell.mono_l k
  unfold laws_eqCell.f
  repeat' first
      | (with_reducible exact ih0 _ _ _ _ _)
      | (with_reducible exact LeO.refl _)
      | (with_reducible exact LeO.none _)
      | (with_reducible refine LeO.ite ?_ ?_)
      | (with_reducible refine LeO.bind ?_ (fun _ => ?_))
      | exact ih0 _ _ _ _ _
      | exact LeO.none _
      | refine LeO.ite ?_ ?_
      | refine LeO.bind ?_ (fun _ => ?_)
set_option maxHeartbeats 8000000 in
set_option maxRecDepth 100000 in
theorem laws_eqCell.calls (k : Nat) (a0_0 : Int) (a0_1 : Int) (a1_0 : Int) (a1_1 : Int) (r : Bool) (w : World) (h : laws_eqCell.f k a0_0 a0_1 a1_0 a1_1 = some r) :
    Calls Tryd.prog 45 #[.agg #[.int .i8 a0_0, .int .i8 a0_1], .agg #[.int .i8 a1_0, .int .i8 a1_1]] w fun e w' => e = .returned (.bool r) ∧ Below w.heap.size w w' := by
  have hu43 := Tryd.underlying43
  have HB := Aside0.mk (Below.refl w.heap.size w)
  have H : (laws_eqCell.l0 k 0 a0_0 a0_1 a1_0 a1_1) = some r := h
  clear h
  have H' := Aside0.mk H
  clear H
  go_enter Tryd.func45, Tryd.ntmps45
  go_wp2_with (first | ((with_reducible refine gate_dst (N := 2) rfl ?_); refine box_event ?hg (N := 2) ?hd (cs := #[.int .i8 a0_0, .int .i8 a0_1]) (t := 43) ?hr ?_; (case hd => rfl); (case hg => rfl); (case hr => first | (go_simp; done) | (go_simp; rfl)); intro gb176 hg w3 hbox hb; have n0_ := Aside0.mk (below_step (by repeat (first | (with_reducible first | exact HB.out | apply below_alloc | apply pw_below_drewN | apply below_drew1) | exact HB.out)) hb); have n1_ := Aside0.mk (hbox); have n2_ := Aside0.mk ((by rw [hg]; exact (below_size (by repeat (first | (with_reducible first | exact HB.out | apply below_alloc | apply pw_below_drewN | apply below_drew1) | exact HB.out))) : w.heap.size ≤ gb176)); have n3_ := Aside0.mk ((by rw [hg]; exact (below_size (by repeat (first | (with_reducible first | exact HB.out | apply below_alloc | apply pw_below_drewN | apply below_drew1) | exact HB.out))) : w.heap.size ≤ gb176)); clear HB; have HB := n0_; have BK176 := n1_; have GW176 := n2_; have GE176 := n3_; clear n0_ n1_ n2_ n3_; clear hb hbox hg) | ((with_reducible refine gate_dst (N := 3) rfl ?_); refine box_event ?hg (N := 3) ?hd (cs := #[.int .i8 a1_0, .int .i8 a1_1]) (t := 43) ?hr ?_; (case hd => rfl); (case hg => rfl); (case hr => first | (go_simp; done) | (go_simp; rfl)); intro gb177 hg w4 hbox hb; have n0_ := Aside0.mk (blk_below (g := gb176) (o := .cells #[.int .i8 a0_0, .int .i8 a0_1] 43 (0, 0)) (by (with_reducible repeat (first | refine blk_drewN ?_ _ | refine blk_drew ?_ | refine blk_alloc ?_ _)); exact BK176.out) hb); have n1_ := Aside0.mk (below_step (by repeat (first | (with_reducible first | exact HB.out | apply below_alloc | apply pw_below_drewN | apply below_drew1 | refine below_set ?_ GE176.out) | exact HB.out)) hb); have n2_ := Aside0.mk (hbox); have n3_ := Aside0.mk ((by rw [hg]; exact (below_size (by repeat (first | (with_reducible first | exact HB.out | apply below_alloc | apply pw_below_drewN | apply below_drew1 | refine below_set ?_ GE176.out) | exact HB.out))) : w.heap.size ≤ gb177)); have n4_ := Aside0.mk ((by rw [hg]; exact (below_size (by repeat (first | (with_reducible first | exact HB.out | apply below_alloc | apply pw_below_drewN | apply below_drew1 | refine below_set ?_ GE176.out) | exact HB.out))) : w.heap.size ≤ gb177)); have n5_ := Aside0.mk ((by rw [hg]; exact Nat.ne_of_lt (blk_lt (g := gb176) (o := .cells #[.int .i8 a0_0, .int .i8 a0_1] 43 (0, 0)) (by (with_reducible repeat (first | refine blk_drewN ?_ _ | refine blk_drew ?_ | refine blk_alloc ?_ _)); exact BK176.out)) : gb176 ≠ gb177)); have n6_ := Aside0.mk ((by rw [hg]; exact Nat.ne_of_gt (blk_lt (g := gb176) (o := .cells #[.int .i8 a0_0, .int .i8 a0_1] 43 (0, 0)) (by (with_reducible repeat (first | refine blk_drewN ?_ _ | refine blk_drew ?_ | refine blk_alloc ?_ _)); exact BK176.out)) : gb177 ≠ gb176)); clear BK176; clear HB; have BK176 := n0_; have HB := n1_; have BK177 := n2_; have GW177 := n3_; have GE177 := n4_; have NB176_177 := n5_; have NB177_176 := n6_; clear n0_ n1_ n2_ n3_ n4_ n5_ n6_; clear hb hbox hg))
  repeat (go_quiet (first | ((with_reducible refine gate_dst (N := 2) rfl ?_); refine box_event ?hg (N := 2) ?hd (cs := #[.int .i8 a0_0, .int .i8 a0_1]) (t := 43) ?hr ?_; (case hd => rfl); (case hg => rfl); (case hr => first | (go_simp; done) | (go_simp; rfl)); intro gb176 hg w3 hbox hb; have n0_ := Aside0.mk (below_step (by repeat (first | (with_reducible first | exact HB.out | apply below_alloc | apply pw_below_drewN | apply below_drew1) | exact HB.out)) hb); have n1_ := Aside0.mk (hbox); have n2_ := Aside0.mk ((by rw [hg]; exact (below_size (by repeat (first | (with_reducible first | exact HB.out | apply below_alloc | apply pw_below_drewN | apply below_drew1) | exact HB.out))) : w.heap.size ≤ gb176)); have n3_ := Aside0.mk ((by rw [hg]; exact (below_size (by repeat (first | (with_reducible first | exact HB.out | apply below_alloc | apply pw_below_drewN | apply below_drew1) | exact HB.out))) : w.heap.size ≤ gb176)); clear HB; have HB := n0_; have BK176 := n1_; have GW176 := n2_; have GE176 := n3_; clear n0_ n1_ n2_ n3_; clear hb hbox hg) | ((with_reducible refine gate_dst (N := 3) rfl ?_); refine box_event ?hg (N := 3) ?hd (cs := #[.int .i8 a1_0, .int .i8 a1_1]) (t := 43) ?hr ?_; (case hd => rfl); (case hg => rfl); (case hr => first | (go_simp; done) | (go_simp; rfl)); intro gb177 hg w4 hbox hb; have n0_ := Aside0.mk (blk_below (g := gb176) (o := .cells #[.int .i8 a0_0, .int .i8 a0_1] 43 (0, 0)) (by (with_reducible repeat (first | refine blk_drewN ?_ _ | refine blk_drew ?_ | refine blk_alloc ?_ _)); exact BK176.out) hb); have n1_ := Aside0.mk (below_step (by repeat (first | (with_reducible first | exact HB.out | apply below_alloc | apply pw_below_drewN | apply below_drew1 | refine below_set ?_ GE176.out) | exact HB.out)) hb); have n2_ := Aside0.mk (hbox); have n3_ := Aside0.mk ((by rw [hg]; exact (below_size (by repeat (first | (with_reducible first | exact HB.out | apply below_alloc | apply pw_below_drewN | apply below_drew1 | refine below_set ?_ GE176.out) | exact HB.out))) : w.heap.size ≤ gb177)); have n4_ := Aside0.mk ((by rw [hg]; exact (below_size (by repeat (first | (with_reducible first | exact HB.out | apply below_alloc | apply pw_below_drewN | apply below_drew1 | refine below_set ?_ GE176.out) | exact HB.out))) : w.heap.size ≤ gb177)); have n5_ := Aside0.mk ((by rw [hg]; exact Nat.ne_of_lt (blk_lt (g := gb176) (o := .cells #[.int .i8 a0_0, .int .i8 a0_1] 43 (0, 0)) (by (with_reducible repeat (first | refine blk_drewN ?_ _ | refine blk_drew ?_ | refine blk_alloc ?_ _)); exact BK176.out)) : gb176 ≠ gb177)); have n6_ := Aside0.mk ((by rw [hg]; exact Nat.ne_of_gt (blk_lt (g := gb176) (o := .cells #[.int .i8 a0_0, .int .i8 a0_1] 43 (0, 0)) (by (with_reducible repeat (first | refine blk_drewN ?_ _ | refine blk_drew ?_ | refine blk_alloc ?_ _)); exact BK176.out)) : gb177 ≠ gb176)); clear BK176; clear HB; have BK176 := n0_; have HB := n1_; have BK177 := n2_; have GW177 := n3_; have GE177 := n4_; have NB176_177 := n5_; have NB177_176 := n6_; clear n0_ n1_ n2_ n3_ n4_ n5_ n6_; clear hb hbox hg)); try go_wp2_with (first | ((with_reducible refine gate_dst (N := 2) rfl ?_); refine box_event ?hg (N := 2) ?hd (cs := #[.int .i8 a0_0, .int .i8 a0_1]) (t := 43) ?hr ?_; (case hd => rfl); (case hg => rfl); (case hr => first | (go_simp; done) | (go_simp; rfl)); intro gb176 hg w3 hbox hb; have n0_ := Aside0.mk (below_step (by repeat (first | (with_reducible first | exact HB.out | apply below_alloc | apply pw_below_drewN | apply below_drew1) | exact HB.out)) hb); have n1_ := Aside0.mk (hbox); have n2_ := Aside0.mk ((by rw [hg]; exact (below_size (by repeat (first | (with_reducible first | exact HB.out | apply below_alloc | apply pw_below_drewN | apply below_drew1) | exact HB.out))) : w.heap.size ≤ gb176)); have n3_ := Aside0.mk ((by rw [hg]; exact (below_size (by repeat (first | (with_reducible first | exact HB.out | apply below_alloc | apply pw_below_drewN | apply below_drew1) | exact HB.out))) : w.heap.size ≤ gb176)); clear HB; have HB := n0_; have BK176 := n1_; have GW176 := n2_; have GE176 := n3_; clear n0_ n1_ n2_ n3_; clear hb hbox hg) | ((with_reducible refine gate_dst (N := 3) rfl ?_); refine box_event ?hg (N := 3) ?hd (cs := #[.int .i8 a1_0, .int .i8 a1_1]) (t := 43) ?hr ?_; (case hd => rfl); (case hg => rfl); (case hr => first | (go_simp; done) | (go_simp; rfl)); intro gb177 hg w4 hbox hb; have n0_ := Aside0.mk (blk_below (g := gb176) (o := .cells #[.int .i8 a0_0, .int .i8 a0_1] 43 (0, 0)) (by (with_reducible repeat (first | refine blk_drewN ?_ _ | refine blk_drew ?_ | refine blk_alloc ?_ _)); exact BK176.out) hb); have n1_ := Aside0.mk (below_step (by repeat (first | (with_reducible first | exact HB.out | apply below_alloc | apply pw_below_drewN | apply below_drew1 | refine below_set ?_ GE176.out) | exact HB.out)) hb); have n2_ := Aside0.mk (hbox); have n3_ := Aside0.mk ((by rw [hg]; exact (below_size (by repeat (first | (with_reducible first | exact HB.out | apply below_alloc | apply pw_below_drewN | apply below_drew1 | refine below_set ?_ GE176.out) | exact HB.out))) : w.heap.size ≤ gb177)); have n4_ := Aside0.mk ((by rw [hg]; exact (below_size (by repeat (first | (with_reducible first | exact HB.out | apply below_alloc | apply pw_below_drewN | apply below_drew1 | refine below_set ?_ GE176.out) | exact HB.out))) : w.heap.size ≤ gb177)); have n5_ := Aside0.mk ((by rw [hg]; exact Nat.ne_of_lt (blk_lt (g := gb176) (o := .cells #[.int .i8 a0_0, .int .i8 a0_1] 43 (0, 0)) (by (with_reducible repeat (first | refine blk_drewN ?_ _ | refine blk_drew ?_ | refine blk_alloc ?_ _)); exact BK176.out)) : gb176 ≠ gb177)); have n6_ := Aside0.mk ((by rw [hg]; exact Nat.ne_of_gt (blk_lt (g := gb176) (o := .cells #[.int .i8 a0_0, .int .i8 a0_1] 43 (0, 0)) (by (with_reducible repeat (first | refine blk_drewN ?_ _ | refine blk_drew ?_ | refine blk_alloc ?_ _)); exact BK176.out)) : gb177 ≠ gb176)); clear BK176; clear HB; have BK176 := n0_; have HB := n1_; have BK177 := n2_; have GW177 := n3_; have GE177 := n4_; have NB176_177 := n5_; have NB177_176 := n6_; clear n0_ n1_ n2_ n3_ n4_ n5_ n6_; clear hb hbox hg)))
  go_loopg [5] k (fun kq v5 w' => ∃ (x5_1 : Int), v5 = .int .i64 x5_1 ∧ Aside0 (laws_eqCell.l0 kq x5_1 a0_0 a0_1 a1_0 a1_1 = some r) ∧ Aside0 (kq ≤ k) ∧ Aside0 (w'.heap[gb176]? = some (.cells #[.int .i8 a0_0, .int .i8 a0_1] 43 (0, 0))) ∧ Aside0 (w'.heap[gb177]? = some (.cells #[.int .i8 a1_0, .int .i8 a1_1] 43 (0, 0))) ∧ Aside0 (Below w.heap.size w w'))
  case atStart => exact ⟨(0), (by first | rfl | (simp; done) | (simp [*]; done) | (exact congrArg (Value.int .i64) (wrap_eq (by omega)))), H', ⟨Nat.le_refl _⟩, ⟨by (with_reducible repeat (first | refine blk_drewN ?_ _ | refine blk_drew ?_ | refine blk_alloc ?_ _)); exact BK176.out⟩, ⟨by (with_reducible repeat (first | refine blk_drewN ?_ _ | refine blk_drew ?_ | refine blk_alloc ?_ _)); exact BK177.out⟩, ⟨by repeat (first | (with_reducible first | exact HB.out | apply below_alloc | apply pw_below_drewN | apply below_drew1 | refine below_set ?_ GE176.out | refine below_set ?_ GE177.out) | exact HB.out)⟩⟩
  case round =>
    clear H'
    try clear p2
    try clear c4
    obtain ⟨x5_1, rfl, HA, HK1, BK176, BK177, HB⟩ := hrel
    cases gk with
    | zero => exact absurd HA.out (by simp [laws_eqCell.l0])
    | succ k1 =>
      have H := HA.out
      clear HA
      simp only [laws_eqCell.l0] at H
      by_cases c5 : x5_1 < 2
      · rw [if_pos c5] at H
        have c5b0 : decide (x5_1 < 2) = true := decide_eq_true c5
        clear c5
        by_cases c6 : x5_1 = 0
        · rw [if_pos c6] at H
          have Ac6 : Aside0 (x5_1 = 0) := ⟨c6⟩
          clear c6
          have ar7e : x5_1 = 0 := by first | exact (show Aside0 (x5_1 = 0) by assumption).out | exact beq_iff_eq.mp (by assumption) | omega
          have ar7n : (x5_1).toNat = 0 := by rw [ar7e]; rfl
          have ar7l : decide (0 ≤ x5_1) = true := decide_eq_true (by omega)
          have ar7L := eq_true (of_decide_eq_true ar7l)
          have ar7h : decide (x5_1 < 2) = true := decide_eq_true (by omega)
          have ar7H := eq_true (of_decide_eq_true ar7h)
          clear ar7e
          have ar8e : x5_1 = 0 := by first | exact (show Aside0 (x5_1 = 0) by assumption).out | exact beq_iff_eq.mp (by assumption) | omega
          have ar8n : (x5_1).toNat = 0 := by rw [ar8e]; rfl
          have ar8l : decide (0 ≤ x5_1) = true := decide_eq_true (by omega)
          have ar8L := eq_true (of_decide_eq_true ar8l)
          have ar8h : decide (x5_1 < 2) = true := decide_eq_true (by omega)
          have ar8H := eq_true (of_decide_eq_true ar8h)
          clear ar8e
          by_cases c9 : a0_0 = a1_0
          · rw [if_pos c9] at H
            have c9b0 : (a0_0 == a1_0) = true := beq_iff_eq.mpr c9
            have c9b1 : (a0_0 != a1_0) = false := bne_eq_false_iff_eq.mpr c9
            clear c9
            have H' := Aside0.mk H
            clear H
            have hnb10 := NB176_177.out
            have hnc10 := NB177_176.out
            have hcz11_0 : wr.cell? ⟨gb176, 0, none⟩ = some (.int .i8 a0_0) := (blk_cell BK176.out 0).trans rfl
            have hcz11_1 : wr.cell? ⟨gb176, 1, none⟩ = some (.int .i8 a0_1) := (blk_cell BK176.out 1).trans rfl
            have hfz11_0 := blk_frozen BK176.out 0
            have hfz11_1 := blk_frozen BK176.out 1
            have hcz12_0 : wr.cell? ⟨gb177, 0, none⟩ = some (.int .i8 a1_0) := (blk_cell BK177.out 0).trans rfl
            have hcz12_1 : wr.cell? ⟨gb177, 1, none⟩ = some (.int .i8 a1_1) := (blk_cell BK177.out 1).trans rfl
            have hfz12_0 := blk_frozen BK177.out 0
            have hfz12_1 := blk_frozen BK177.out 1
            go_wp2
            repeat (go_quiet (fail); try go_wp2)
            go_roundg k1
            case measure => have := HK1.out; omega
            case rel => exact ⟨(wrap64 (x5_1 + 1)), (by first | rfl | (simp; done) | (simp [*]; done) | (exact congrArg (Value.int .i64) (wrap_eq (by omega)))), H', ⟨by have := HK1.out; omega⟩, ⟨by (with_reducible repeat (first | refine blk_drewN ?_ _ | refine blk_drew ?_ | refine blk_alloc ?_ _)); exact BK176.out⟩, ⟨by (with_reducible repeat (first | refine blk_drewN ?_ _ | refine blk_drew ?_ | refine blk_alloc ?_ _)); exact BK177.out⟩, ⟨by repeat (first | (with_reducible first | exact HB.out | apply below_alloc | apply pw_below_drewN | apply below_drew1 | refine below_set ?_ GE176.out | refine below_set ?_ GE177.out) | exact HB.out)⟩⟩
          · rw [if_neg c9] at H
            have c9b0 : (a0_0 == a1_0) = false := beq_eq_false_iff_ne.mpr c9
            have c9b1 : (a0_0 != a1_0) = true := bne_iff_ne.mpr c9
            obtain rfl := Option.some.inj H
            have hnb13 := NB176_177.out
            have hnc13 := NB177_176.out
            have hcz14_0 : wr.cell? ⟨gb176, 0, none⟩ = some (.int .i8 a0_0) := (blk_cell BK176.out 0).trans rfl
            have hcz14_1 : wr.cell? ⟨gb176, 1, none⟩ = some (.int .i8 a0_1) := (blk_cell BK176.out 1).trans rfl
            have hfz14_0 := blk_frozen BK176.out 0
            have hfz14_1 := blk_frozen BK176.out 1
            have hcz15_0 : wr.cell? ⟨gb177, 0, none⟩ = some (.int .i8 a1_0) := (blk_cell BK177.out 0).trans rfl
            have hcz15_1 : wr.cell? ⟨gb177, 1, none⟩ = some (.int .i8 a1_1) := (blk_cell BK177.out 1).trans rfl
            have hfz15_0 := blk_frozen BK177.out 0
            have hfz15_1 := blk_frozen BK177.out 1
            go_wp2
            repeat (go_quiet (fail); try go_wp2)
            go_ret
            exact ⟨by first | rfl | (simp [errW_none, errW_some] <;> rfl) | (simp [*, errW_none, errW_some] <;> rfl), by repeat (first | (with_reducible first | exact HB.out | apply below_alloc | apply pw_below_drewN | apply below_drew1 | refine below_set ?_ GE176.out | refine below_set ?_ GE177.out) | exact HB.out)⟩
        · rw [if_neg c6] at H
          clear c6
          by_cases c16 : x5_1 = 1
          · rw [if_pos c16] at H
            have Ac16 : Aside0 (x5_1 = 1) := ⟨c16⟩
            clear c16
            have ar17e : x5_1 = 1 := by first | exact (show Aside0 (x5_1 = 1) by assumption).out | exact beq_iff_eq.mp (by assumption) | omega
            have ar17n : (x5_1).toNat = 1 := by rw [ar17e]; rfl
            have ar17l : decide (0 ≤ x5_1) = true := decide_eq_true (by omega)
            have ar17L := eq_true (of_decide_eq_true ar17l)
            have ar17h : decide (x5_1 < 2) = true := decide_eq_true (by omega)
            have ar17H := eq_true (of_decide_eq_true ar17h)
            clear ar17e
            have ar18e : x5_1 = 1 := by first | exact (show Aside0 (x5_1 = 1) by assumption).out | exact beq_iff_eq.mp (by assumption) | omega
            have ar18n : (x5_1).toNat = 1 := by rw [ar18e]; rfl
            have ar18l : decide (0 ≤ x5_1) = true := decide_eq_true (by omega)
            have ar18L := eq_true (of_decide_eq_true ar18l)
            have ar18h : decide (x5_1 < 2) = true := decide_eq_true (by omega)
            have ar18H := eq_true (of_decide_eq_true ar18h)
            clear ar18e
            by_cases c19 : a0_1 = a1_1
            · rw [if_pos c19] at H
              have c19b0 : (a0_1 == a1_1) = true := beq_iff_eq.mpr c19
              have c19b1 : (a0_1 != a1_1) = false := bne_eq_false_iff_eq.mpr c19
              clear c19
              have H' := Aside0.mk H
              clear H
              have hnb20 := NB176_177.out
              have hnc20 := NB177_176.out
              have hcz21_0 : wr.cell? ⟨gb176, 0, none⟩ = some (.int .i8 a0_0) := (blk_cell BK176.out 0).trans rfl
              have hcz21_1 : wr.cell? ⟨gb176, 1, none⟩ = some (.int .i8 a0_1) := (blk_cell BK176.out 1).trans rfl
              have hfz21_0 := blk_frozen BK176.out 0
              have hfz21_1 := blk_frozen BK176.out 1
              have hcz22_0 : wr.cell? ⟨gb177, 0, none⟩ = some (.int .i8 a1_0) := (blk_cell BK177.out 0).trans rfl
              have hcz22_1 : wr.cell? ⟨gb177, 1, none⟩ = some (.int .i8 a1_1) := (blk_cell BK177.out 1).trans rfl
              have hfz22_0 := blk_frozen BK177.out 0
              have hfz22_1 := blk_frozen BK177.out 1
              go_wp2
              repeat (go_quiet (fail); try go_wp2)
              go_roundg k1
              case measure => have := HK1.out; omega
              case rel => exact ⟨(wrap64 (x5_1 + 1)), (by first | rfl | (simp; done) | (simp [*]; done) | (exact congrArg (Value.int .i64) (wrap_eq (by omega)))), H', ⟨by have := HK1.out; omega⟩, ⟨by (with_reducible repeat (first | refine blk_drewN ?_ _ | refine blk_drew ?_ | refine blk_alloc ?_ _)); exact BK176.out⟩, ⟨by (with_reducible repeat (first | refine blk_drewN ?_ _ | refine blk_drew ?_ | refine blk_alloc ?_ _)); exact BK177.out⟩, ⟨by repeat (first | (with_reducible first | exact HB.out | apply below_alloc | apply pw_below_drewN | apply below_drew1 | refine below_set ?_ GE176.out | refine below_set ?_ GE177.out) | exact HB.out)⟩⟩
            · rw [if_neg c19] at H
              have c19b0 : (a0_1 == a1_1) = false := beq_eq_false_iff_ne.mpr c19
              have c19b1 : (a0_1 != a1_1) = true := bne_iff_ne.mpr c19
              obtain rfl := Option.some.inj H
              have hnb23 := NB176_177.out
              have hnc23 := NB177_176.out
              have hcz24_0 : wr.cell? ⟨gb176, 0, none⟩ = some (.int .i8 a0_0) := (blk_cell BK176.out 0).trans rfl
              have hcz24_1 : wr.cell? ⟨gb176, 1, none⟩ = some (.int .i8 a0_1) := (blk_cell BK176.out 1).trans rfl
              have hfz24_0 := blk_frozen BK176.out 0
              have hfz24_1 := blk_frozen BK176.out 1
              have hcz25_0 : wr.cell? ⟨gb177, 0, none⟩ = some (.int .i8 a1_0) := (blk_cell BK177.out 0).trans rfl
              have hcz25_1 : wr.cell? ⟨gb177, 1, none⟩ = some (.int .i8 a1_1) := (blk_cell BK177.out 1).trans rfl
              have hfz25_0 := blk_frozen BK177.out 0
              have hfz25_1 := blk_frozen BK177.out 1
              go_wp2
              repeat (go_quiet (fail); try go_wp2)
              go_ret
              exact ⟨by first | rfl | (simp [errW_none, errW_some] <;> rfl) | (simp [*, errW_none, errW_some] <;> rfl), by repeat (first | (with_reducible first | exact HB.out | apply below_alloc | apply pw_below_drewN | apply below_drew1 | refine below_set ?_ GE176.out | refine below_set ?_ GE177.out) | exact HB.out)⟩
          · rw [if_neg c16] at H
            exact absurd H (by simp)
      · rw [if_neg c5] at H
        have c5b0 : decide (x5_1 < 2) = false := decide_eq_false c5
        clear c5
        obtain rfl := Option.some.inj H
        go_wp2
        repeat (go_quiet (fail); try go_wp2)
        go_ret
        exact ⟨by first | rfl | (simp [errW_none, errW_some] <;> rfl) | (simp [*, errW_none, errW_some] <;> rfl), by repeat (first | (with_reducible first | exact HB.out | apply below_alloc | apply pw_below_drewN | apply below_drew1 | refine below_set ?_ GE176.out | refine below_set ?_ GE177.out) | exact HB.out)⟩

end Go.Proofs.YtnbjijkpenlpbaaDoor.PFnExactPushesText
