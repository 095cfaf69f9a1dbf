-- WRITTEN by xprint.py, a program of this session's. Not trusted: Lean checks it.
import Derived.Ground.NamesProg
import Derived.Shelf.Strings.BuilderK
import Derived.Test.YtnbjijkpenlpbaaDoorPFnExactBoardTextx0
import Derived.Test.YtnbjijkpenlpbaaDoorPFnExactBoardTextx7
namespace Go.Proofs.YtnbjijkpenlpbaaDoor.PFnExactBoardText
open Go.RowKit Go.Proofs.YtnbjijkpenlpbaaDoorW.PrintWords Go.Proofs.YtnbjijkpenlpbaaDoorW.PrintLast Go.Proofs.YtnbjijkpenlpbaaDoorW.PrintMore Go.Proofs.YtnbjijkpenlpbaaDoorX
attribute [local go_sem] max2_int min2_int max_two min_two max_three min_three max_four min_four   -- for this text's walks alone
set_option linter.unusedVariables false
set_option linter.unusedSimpArgs false

/-! ### impl_Board_text: function 33 -/
open Go.Shelf
def Tryd.laysWriteString_ren : Go.Shelf.Ren := ⟨fun | 166 => 22 | 240 => 42 | 276 => 58 | n => n, fun | 0 => 0 | 3 => 3 | 4 => 4 | 5 => 5 | 9 => 9 | 20 => 20 | 37 => 54 | 70 => 53 | 72 => 56 | 75 => 58 | 80 => 61 | 164 => 97 | n => n, fun n => n⟩
theorem Tryd.laysWriteString : Lays.n166 Tryd.prog Tryd.laysWriteString_ren := {
  mixed := by kernel_rfl
  f166 := Tryd.func22.trans (congrArg some (by kernel_rfl))
  f240 := Tryd.func42.trans (congrArg some (by kernel_rfl))
  f276 := Tryd.func58.trans (congrArg some (by kernel_rfl))
  t0 := Tryd.underlying0
  a0 := Tryd.isAgg0
  z0 := Tryd.sizeOf0
  v0 := Tryd.zeroValue0
  t3 := Tryd.underlying3
  a3 := Tryd.isAgg3
  z3 := Tryd.sizeOf3
  v3 := Tryd.zeroValue3
  t4 := Tryd.underlying4
  a4 := Tryd.isAgg4
  z4 := Tryd.sizeOf4
  v4 := Tryd.zeroValue4
  t9 := Tryd.underlying9
  a9 := Tryd.isAgg9
  z9 := Tryd.sizeOf9
  v9 := Tryd.zeroValue9
  t20 := Tryd.underlying20
  a20 := Tryd.isAgg20
  z20 := Tryd.sizeOf20
  v20 := Tryd.zeroValue20
  t37 := Tryd.underlying54
  a37 := Tryd.isAgg54
  z37 := Tryd.sizeOf54
  v37 := Tryd.zeroValue54
  t70 := Tryd.underlying53
  a70 := Tryd.isAgg53
  z70 := Tryd.sizeOf53
  v70 := Tryd.zeroValue53
  t72 := Tryd.underlying56
  a72 := Tryd.isAgg56
  z72 := Tryd.sizeOf56
  v72 := Tryd.zeroValue56
  t75 := Tryd.underlying58
  a75 := Tryd.isAgg58
  z75 := Tryd.sizeOf58
  v75 := Tryd.zeroValue58
  t164 := Tryd.underlying97
  a164 := Tryd.isAgg97
  z164 := Tryd.sizeOf97
  v164 := Tryd.zeroValue97 }
theorem Tryd.extraWriteString : Builder.Extra Tryd.prog Tryd.laysWriteString_ren := {
  sizeBuilder := by kernel_rfl
  liesBuilder := by kernel_rfl
  t5 := Tryd.underlying5
  a5 := Tryd.isAgg5
  z5 := Tryd.sizeOf5
  v5 := Tryd.zeroValue5
  infoByte := by kernel_rfl
  cellsByte := by kernel_rfl
  sizeByte := by kernel_rfl
  neB5 := by decide }
def Tryd.laysString_ren : Go.Shelf.Ren := ⟨fun | 169 => 26 | n => n, fun | 70 => 53 | 9 => 9 | 0 => 0 | 72 => 56 | 37 => 54 | 127 => 81 | 3 => 3 | 5 => 5 | n => n, fun | n => n⟩
theorem Tryd.laysString : Go.Proofs.Lays.n169 Tryd.prog Tryd.laysString_ren := {
  mixed := by kernel_rfl
  f169 := Tryd.func26.trans (congrArg some (by kernel_rfl))
  t0 := Tryd.underlying0
  a0 := Tryd.isAgg0
  z0 := Tryd.sizeOf0
  v0 := Tryd.zeroValue0
  t3 := Tryd.underlying3
  a3 := Tryd.isAgg3
  z3 := Tryd.sizeOf3
  v3 := Tryd.zeroValue3
  t9 := Tryd.underlying9
  a9 := Tryd.isAgg9
  z9 := Tryd.sizeOf9
  v9 := Tryd.zeroValue9
  t37 := Tryd.underlying54
  a37 := Tryd.isAgg54
  z37 := Tryd.sizeOf54
  v37 := Tryd.zeroValue54
  t70 := Tryd.underlying53
  a70 := Tryd.isAgg53
  z70 := Tryd.sizeOf53
  v70 := Tryd.zeroValue53
  t72 := Tryd.underlying56
  a72 := Tryd.isAgg56
  z72 := Tryd.sizeOf56
  v72 := Tryd.zeroValue56
  t127 := Tryd.underlying81
  a127 := Tryd.isAgg81
  z127 := Tryd.sizeOf81
  v127 := Tryd.zeroValue81 }
theorem Tryd.extraString : Builder.Extra Tryd.prog Tryd.laysString_ren := {
  sizeBuilder := by kernel_rfl
  liesBuilder := by kernel_rfl
  t5 := Tryd.underlying5
  a5 := Tryd.isAgg5
  z5 := Tryd.sizeOf5
  v5 := Tryd.zeroValue5
  infoByte := by kernel_rfl
  cellsByte := by kernel_rfl
  sizeByte := by kernel_rfl
  neB5 := by decide }
/-- A builder in block gb that holds the string x. -/
def BF (B gb : Nat) (x : ByteArray) (w : World) : Prop := Go.Lib.IsBuilderF 56 5 B gb (Go.Lib.strCells x) w
theorem bf_heap {B gb : Nat} {x : ByteArray} {w w1 : World} (h : BF B gb x w) (hk : ∀ (k : Nat) (cs : Array Value) (t : TypeId) (fz : Nat × Nat), w.heap[k]? = some (Obj.cells cs t fz) → t = 56 ∨ t = 5 → w1.heap[k]? = some (Obj.cells cs t fz)) : BF B gb x w1 := by
  have go : ∀ p, Go.Lib.BuilderAtF 56 5 B gb p (Go.Lib.strCells x) w → Go.Lib.BuilderAtF 56 5 B gb p (Go.Lib.strCells x) w1 := by
    rintro p ⟨hB, v, hb, hown, hne⟩
    refine ⟨hB, v, hk _ _ _ _ hb (.inl rfl), ⟨hown.1, ?_⟩, hne⟩
    rcases hown.2 with h2 | ⟨g, cap, cur, fz, hv, hg, hh, r⟩
    · exact .inl h2
    · exact .inr ⟨g, cap, cur, fz, hv, hg, hk _ _ _ _ hh (.inr rfl), r⟩
  exact h.elim (fun h => .inl (go _ h)) (fun h => .inr (go _ h))
theorem bf_drew {B gb : Nat} {x : ByteArray} {w : World} (h : BF B gb x w) : BF B gb x w.drew := h
theorem bf_drewN {B gb : Nat} {x : ByteArray} {w : World} (h : BF B gb x w) (n : Nat) : BF B gb x (w.drewN n) := bf_heap h (fun _ _ _ _ hk _ => hk)
theorem bf_below {B gb : Nat} {x : ByteArray} {w w1 : World} (h : BF B gb x w) (hb : Below w.heap.size w w1) : BF B gb x w1 := bf_heap h (fun _ _ _ _ hk _ => blk_below hk hb)
theorem bf_fresh {B gb : Nat} {w : World} (h : w.heap[gb]? = some (Obj.cells #[.pointer none, .slice none 0 0] 56 (0, 0))) (hB : B ≤ gb) : BF B gb ⟨#[]⟩ w :=
  .inl ⟨hB, .slice none 0 0, h, ⟨rfl, .inl ⟨rfl, rfl⟩⟩, by simp [Value.ownBlock]⟩
/-- A block of a type that is neither the builder's nor a byte's. -/
def Ty (g t : Nat) (w : World) : Prop := ∃ cs fz, w.heap[g]? = some (Obj.cells cs t fz)
theorem bf_set {B gb g t : Nat} {x : ByteArray} {w : World} (h : BF B gb x w ∧ Ty g t w) (h1 : t ≠ 56) (h2 : t ≠ 5) (i : Nat) (v : Value) : BF B gb x (w.setCell ⟨g, i, none⟩ v) ∧ Ty g t (w.setCell ⟨g, i, none⟩ v) := by
  obtain ⟨h, cs0, fz0, hg⟩ := h
  refine ⟨bf_heap h (fun k cs t' fz hk ht => ?_), ?_⟩
  · by_cases e : k = g
    · subst e
      rw [hg] at hk
      simp only [Option.some.injEq, Obj.cells.injEq] at hk
      exact ht.elim (fun e => absurd (hk.2.1.trans e) h1) (fun e => absurd (hk.2.1.trans e) h2)
    · rw [← hk]
      exact Below.heap_setCell _ _ _ _ e
  · exact ⟨cs0.set! i v, fz0, by simp [World.setCell, Array.getElem?_modify, hg]⟩
/-- What stands behind a write: a block of another type. -/
theorem oth_keep {gb : Nat} {w w1 : World} (h : Go.Lib.OthersKept 5 (some gb) w w1) {B : Nat} {x : ByteArray} (hb : BF B gb x w) {g t : Nat} {cs : Array Value} {fz : Nat × Nat} (hg : w.heap[g]? = some (Obj.cells cs t fz)) (h1 : t ≠ 56) (h2 : t ≠ 5) : w1.heap[g]? = some (Obj.cells cs t fz) := by
  refine h g _ hg (fun e => ?_) (fun c f e => ?_)
  · have e' : g = gb := Option.some.inj e
    subst e'
    have : ∃ v p, w.heap[g]? = some (Obj.cells #[p, v] 56 (0, 0)) := by
      rcases hb with ⟨_, v, hv, _⟩ | ⟨_, v, hv, _⟩ <;> exact ⟨_, _, hv⟩
    obtain ⟨v, p, hv⟩ := this
    rw [hg] at hv
    simp only [Option.some.injEq, Obj.cells.injEq] at hv
    exact h1 hv.2.1
  · simp only [Obj.cells.injEq] at e
    exact h2 e.2.1
theorem oth_cell {gb : Nat} {w w1 : World} (h : Go.Lib.OthersKept 5 (some gb) w w1) {B : Nat} {x : ByteArray} (hb : BF B gb x w) {g t : Nat} {cs : Array Value} {fz : Nat × Nat} (hg : w.heap[g]? = some (Obj.cells cs t fz)) (h1 : t ≠ 56) (h2 : t ≠ 5) {a : Addr} {v : Value} (hv : w.cell? a = some v) (ha : a.block = g) : w1.cell? a = some v := by
  subst ha
  have := oth_keep h hb hg h1 h2
  rw [← hv]
  simp [World.cell?, this, hg]
theorem builder_write (B gb : Nat) (x s : ByteArray) (w : World) (h : BF B gb x w) (hlen : x.size + s.size ≤ 140737488355328) (hBw : B ≤ w.heap.size) :
    Calls Tryd.prog 22 #[.pointer (some ⟨gb, 0, none⟩), .string s] w fun e w' => e = .returned (.tuple #[.int .i64 s.size, .nilIface]) ∧ BF B gb (x ++ s) w' ∧ Below B w w' ∧ Go.Lib.OthersKept 5 (some gb) w w' := by
  refine (Any.Builder_WriteString_k Tryd.laysWriteString Tryd.extraWriteString B gb (Go.Lib.strCells x) s w h (by simpa [Go.Lib.strCells] using hlen) hBw).mono ?_
  rintro e w' ⟨rfl, h1, h2, h3⟩
  refine ⟨rfl, .inr ?_, h2, h3⟩
  have : Go.Lib.strCells (x ++ s) = Go.Lib.strCells x ++ Go.Lib.strCells s := by simp [Go.Lib.strCells]
  rw [this]
  exact h1
theorem builder_string (B gb : Nat) (x : ByteArray) (w : World) (h : BF B gb x w) (hBw : B ≤ w.heap.size) :
    Calls Tryd.prog 26 #[.pointer (some ⟨gb, 0, none⟩)] w fun e w' => e = .returned (.string x) ∧ Below B w w' := by
  refine (Any.Builder_String_any_k Tryd.laysString Tryd.extraString B gb x.data.toList w (by exact h) hBw).mono ?_
  rintro e w' ⟨rfl, h1, h2, h3⟩
  exact ⟨by cases x; simp, h2⟩
def impl_Board_text.l0 : Nat → ByteArray → List (S85) → Int → Int → Option (ByteArray)
  | 0, _, _, _, _ => none
  | k + 1, x3, x24, x25, x26 => if x26 < x25 then (if 0 ≤ x26 then (if x26 < (x24.length : Int) then ((impl_Cell_text.f ((rd_T85 x24 x26).f0.f0) ((rd_T85 x24 x26).f0.f1)).bind fun t215 => (if t215.size + 1 ≤ 9223372036854775807 then ((impl_kindNames.f).bind fun t216 => (if 0 ≤ ((rd_T85 x24 x26).f1) then (if ((rd_T85 x24 x26).f1) < (t216.length : Int) then (if t215.size + 1 + (rdOf ByteArray.empty t216 ((rd_T85 x24 x26).f1)).size ≤ 9223372036854775807 then (if t215.size + 1 + (rdOf ByteArray.empty t216 ((rd_T85 x24 x26).f1)).size + 1 ≤ 9223372036854775807 then ((impl_decimal_int8.f ((rd_T85 x24 x26).f2)).bind fun t220 => (if t215.size + 1 + (rdOf ByteArray.empty t216 ((rd_T85 x24 x26).f1)).size + 1 + t220.size ≤ 9223372036854775807 then (if t215.size + 1 + (rdOf ByteArray.empty t216 ((rd_T85 x24 x26).f1)).size + 1 + t220.size + 1 ≤ 9223372036854775807 then ((impl_decimal_int8.f ((rd_T85 x24 x26).f3)).bind fun t221 => (if t215.size + 1 + (rdOf ByteArray.empty t216 ((rd_T85 x24 x26).f1)).size + 1 + t220.size + 1 + t221.size ≤ 9223372036854775807 then (if t215.size + 1 + (rdOf ByteArray.empty t216 ((rd_T85 x24 x26).f1)).size + 1 + t220.size + 1 + t221.size + 1 ≤ 9223372036854775807 then (if x3.size + t215.size + 1 + (rdOf ByteArray.empty t216 ((rd_T85 x24 x26).f1)).size + 1 + t220.size + 1 + t221.size + 1 ≤ 140737488355328 then (impl_Board_text.l0 k (x3 ++ (((((((t215 ++ (⟨#[32]⟩ : ByteArray)) ++ (rdOf ByteArray.empty t216 ((rd_T85 x24 x26).f1))) ++ (⟨#[32]⟩ : ByteArray)) ++ t220) ++ (⟨#[32]⟩ : ByteArray)) ++ t221) ++ (⟨#[10]⟩ : ByteArray))) x24 x25 (wrap64 (x26 + 1))) else (none)) else (none)) else (none))) else (none)) else (none))) else (none)) else (none)) else (none)) else (none))) else (none))) else (none)) else (none)) else (some x3)
def impl_Board_text.f (k : Nat) (l0 : List (S37)) : Option (ByteArray) := if 0 < (l0.length : Int) then ((impl_decimal_int8.f ((rd_T37 l0 0).f0)).bind fun t209 => (if t209.size + 1 ≤ 9223372036854775807 then ((impl_decimal_int8.f ((rd_T37 l0 0).f1)).bind fun t211 => (if t209.size + 1 + t211.size ≤ 9223372036854775807 then (if t209.size + 1 + t211.size + 1 ≤ 9223372036854775807 then (if 0 + t209.size + 1 + t211.size + 1 ≤ 140737488355328 then (impl_Board_text.l0 k ((⟨#[]⟩ : ByteArray) ++ (((t209 ++ (⟨#[32]⟩ : ByteArray)) ++ t211) ++ (⟨#[10]⟩ : ByteArray))) ((rd_T37 l0 0).f2) (((rd_T37 l0 0).f2).length : Int) 0) else (none)) else (none)) else (none))) else (none))) else (none)
theorem impl_Board_text.mono_l : ∀ k, (∀ y0 y1 y2 y3, LeO (impl_Board_text.l0 k y0 y1 y2 y3) (impl_Board_text.l0 (k + 1) y0 y1 y2 y3))
  | 0 => fun _ _ _ _ r h => by simp [impl_Board_text.l0] at h
  | k + 1 => by
    have ih0 := impl_Board_text.mono_l k
    · intro y0 y1 y2 y3
      unfold impl_Board_text.l0
      repeat' first
      | (with_reducible exact ih0 _ _ _ _)
      | (with_reducible exact LeO.refl _)
      | (with_reducible exact LeO.none _)
      | (with_reducible refine LeO.ite ?_ ?_)
      | (with_reducible refine LeO.bind ?_ (fun _ => ?_))
      | exact ih0 _ _ _ _
      | exact LeO.none _
      | refine LeO.ite ?_ ?_
      | refine LeO.bind ?_ (fun _ => ?_)
theorem impl_Board_text.mono : ∀ a0 k, LeO (impl_Board_text.f k a0) (impl_Board_text.f (k + 1) a0) := by
  intro a0 k
  have ih0 := impl_Board_text.mono_l k
  unfold impl_Board_text.f
  repeat' first
      | (with_reducible exact ih0 _ _ _ _)
      | (with_reducible exact LeO.refl _)
      | (with_reducible exact LeO.none _)
      | (with_reducible refine LeO.ite ?_ ?_)
      | (with_reducible refine LeO.bind ?_ (fun _ => ?_))
      | exact ih0 _ _ _ _
      | exact LeO.none _
      | refine LeO.ite ?_ ?_
      | refine LeO.bind ?_ (fun _ => ?_)
def impl_Board_text.T2 : Bool × List (List Nat × List Nat) := (true, [([], []), ([0], [0]), ([1], [1]), ([2], [2]), ([3], [3]), ([4], [4]), ([], []), ([6], [6]), ([7], [7]), ([8], [8]), ([9, 4], [9]), ([5, 10], [5, 10]), ([11], [11]), ([12, 10], [12])])
def impl_Board_text.B2 : List Nat := [0, 1, 3, 7, 15, 31, 0, 64, 192, 448, 991, 2047, 4095, 8191]
theorem impl_Board_text.tab2 : rtab .any (opsOf Tryd.f33 2) = impl_Board_text.T2 := by kernel_rfl
theorem impl_Board_text.bits2 : waitsOk impl_Board_text.T2.2 impl_Board_text.B2 = true := by kernel_rfl
def impl_Board_text.T6 : Bool × List (List Nat × List Nat) := (true, [([], []), ([0], [0]), ([1], [1]), ([2], [2]), ([2], []), ([], []), ([5], [5]), ([4, 6], [4, 6]), ([7], [7]), ([3, 8], [3, 8]), ([9], [9]), ([], []), ([11], [11]), ([12, 4], [12]), ([10, 13], [10, 13]), ([14], [14]), ([], []), ([16], [16]), ([17, 13], [17]), ([15, 18], [15, 18]), ([19], [19]), ([20, 18], [20])])
def impl_Board_text.B6 : List Nat := [0, 1, 3, 7, 7, 0, 32, 119, 247, 511, 1023, 0, 2048, 6167, 16383, 32767, 0, 65536, 210967, 524287, 1048575, 2097151]
theorem impl_Board_text.tab6 : rtab .any (opsOf Tryd.f33 6) = impl_Board_text.T6 := by kernel_rfl
theorem impl_Board_text.bits6 : waitsOk impl_Board_text.T6.2 impl_Board_text.B6 = true := by kernel_rfl
set_option maxHeartbeats 8000000 in
set_option maxRecDepth 100000 in
theorem impl_Board_text.calls (k : Nat) (adp0 : Addr) (l0 : List (S37)) (r : ByteArray) (w : World) (hr0 : Kd.C k37 w (some adp0) l0.length l0) (h : impl_Board_text.f k l0 = some r) :
    Calls Tryd.prog 33 #[.pointer (some adp0)] w fun e w' => e = .returned (.string r) ∧ Below w.heap.size w w' := by
  have hu85 := Tryd.underlying85
  have hu43 := Tryd.underlying43
  have HR0 := Aside0.mk hr0
  clear hr0
  have HB := Aside0.mk (Below.refl w.heap.size w)
  have H : (if 0 < (l0.length : Int) then ((impl_decimal_int8.f ((rd_T37 l0 0).f0)).bind fun t209 => (if t209.size + 1 ≤ 9223372036854775807 then ((impl_decimal_int8.f ((rd_T37 l0 0).f1)).bind fun t211 => (if t209.size + 1 + t211.size ≤ 9223372036854775807 then (if t209.size + 1 + t211.size + 1 ≤ 9223372036854775807 then (if 0 + t209.size + 1 + t211.size + 1 ≤ 140737488355328 then (impl_Board_text.l0 k ((⟨#[]⟩ : ByteArray) ++ (((t209 ++ (⟨#[32]⟩ : ByteArray)) ++ t211) ++ (⟨#[10]⟩ : ByteArray))) ((rd_T37 l0 0).f2) (((rd_T37 l0 0).f2).length : Int) 0) else (none)) else (none)) else (none))) else (none))) else (none)) = some r := h
  clear h
  by_cases c2 : 0 < (l0.length : Int)
  · rw [if_pos c2] at H
    have c2b0 : decide (0 < (l0.length : Int)) = true := decide_eq_true c2
    have c2b1 : decide (0 < l0.length) = true := decide_eq_true (by omega)
    clear c2
    replace H := Option.bind_eq_some_iff.mp H
    obtain ⟨t209, A30, H⟩ := H
    replace H : (if t209.size + 1 ≤ 9223372036854775807 then ((impl_decimal_int8.f ((rd_T37 l0 0).f1)).bind fun t211 => (if t209.size + 1 + t211.size ≤ 9223372036854775807 then (if t209.size + 1 + t211.size + 1 ≤ 9223372036854775807 then (if 0 + t209.size + 1 + t211.size + 1 ≤ 140737488355328 then (impl_Board_text.l0 k ((⟨#[]⟩ : ByteArray) ++ (((t209 ++ (⟨#[32]⟩ : ByteArray)) ++ t211) ++ (⟨#[10]⟩ : ByteArray))) ((rd_T37 l0 0).f2) (((rd_T37 l0 0).f2).length : Int) 0) else (none)) else (none)) else (none))) else (none)) = some r := H
    have A3 := Aside0.mk A30
    clear A30
    by_cases c4 : t209.size + 1 ≤ 9223372036854775807
    · rw [if_pos c4] at H
      have c4b0 := eq_true c4
      have c4b1 : decide (t209.size + 1 ≤ 9223372036854775807) = true := decide_eq_true c4
      try have c4b2 : (9223372036854775807 < t209.size + 1) = False := eq_false (Nat.not_lt.2 c4)
      replace H := Option.bind_eq_some_iff.mp H
      obtain ⟨t211, A50, H⟩ := H
      replace H : (if t209.size + 1 + t211.size ≤ 9223372036854775807 then (if t209.size + 1 + t211.size + 1 ≤ 9223372036854775807 then (if 0 + t209.size + 1 + t211.size + 1 ≤ 140737488355328 then (impl_Board_text.l0 k ((⟨#[]⟩ : ByteArray) ++ (((t209 ++ (⟨#[32]⟩ : ByteArray)) ++ t211) ++ (⟨#[10]⟩ : ByteArray))) ((rd_T37 l0 0).f2) (((rd_T37 l0 0).f2).length : Int) 0) else (none)) else (none)) else (none)) = some r := H
      have A5 := Aside0.mk A50
      clear A50
      by_cases c6 : t209.size + 1 + t211.size ≤ 9223372036854775807
      · rw [if_pos c6] at H
        have c6b0 := eq_true c6
        have c6b1 : decide (t209.size + 1 + t211.size ≤ 9223372036854775807) = true := decide_eq_true c6
        try have c6b2 : (9223372036854775807 < t209.size + 1 + t211.size) = False := eq_false (Nat.not_lt.2 c6)
        by_cases c7 : t209.size + 1 + t211.size + 1 ≤ 9223372036854775807
        · rw [if_pos c7] at H
          have c7b0 := eq_true c7
          have c7b1 : decide (t209.size + 1 + t211.size + 1 ≤ 9223372036854775807) = true := decide_eq_true c7
          try have c7b2 : (9223372036854775807 < t209.size + 1 + t211.size + 1) = False := eq_false (Nat.not_lt.2 c7)
          by_cases c8 : 0 + t209.size + 1 + t211.size + 1 ≤ 140737488355328
          · rw [if_pos c8] at H
            have c8b0 := eq_true c8
            have c8b1 : decide (0 + t209.size + 1 + t211.size + 1 ≤ 140737488355328) = true := decide_eq_true c8
            try have c8b2 : (9223372036854775807 < 0 + t209.size + 1 + t211.size + 1) = False := eq_false (Nat.not_lt.2 c8)
            have H' := Aside0.mk H
            clear H
            go_enter Tryd.func33, Tryd.ntmps33
            try go_wp2_with (first | ((with_reducible refine gate_dst (N := 3) rfl ?_); refine box_event ?hg (N := 3) ?hd (cs := #[.pointer none, .slice none 0 0]) (t := 56) ?hr ?_; (case hd => rfl); (case hg => rfl); (case hr => first | (go_simp; done) | (go_simp; rfl)); intro gbo hg wb hbox hb; have n0_ := Aside0.mk (below_step (by repeat (first | (with_reducible first | exact HB.out | apply below_alloc | apply pw_below_drewN | apply below_drew1) | exact HB.out)) hb); have n1_ := Aside0.mk hbox; have n2_ := Aside0.mk ((by rw [hg]; exact (below_size (by repeat (first | (with_reducible first | exact HB.out | apply below_alloc | apply pw_below_drewN | apply below_drew1) | exact HB.out)))) : w.heap.size ≤ gbo); clear HB; have HB := n0_; have BKO := n1_; have GEO := n2_; clear n0_ n1_ n2_; clear hb hbox hg; have hcz0 : wb.cell? ⟨gbo, 0, none⟩ = some (.pointer none) := (blk_cell BKO.out 0).trans rfl; have hcz1 : wb.cell? ⟨gbo, 1, none⟩ = some (.slice none 0 0) := (blk_cell BKO.out 1).trans rfl; have hfz0 := blk_frozen BKO.out 0; have hfz1 := blk_frozen BKO.out 1))
            have n0_ : Aside0 (((wb.setCell ⟨gbo, 0, none⟩ (.pointer none)).setCell ⟨gbo, 1, none⟩ (.slice none 0 0)).heap[gbo]? = some (.cells #[.pointer none, .slice none 0 0] 56 (0, 0))) := ⟨by refine blk_put (cs := #[.pointer none, .slice none 0 0]) ?_ 1 _ rfl; refine blk_put (cs := #[.pointer none, .slice none 0 0]) ?_ 0 _ rfl; exact BKO.out⟩
            have n1_ : Aside0 (Below w.heap.size w ((wb.setCell ⟨gbo, 0, none⟩ (.pointer none)).setCell ⟨gbo, 1, none⟩ (.slice none 0 0))) := ⟨by repeat (first | (with_reducible first | exact HB.out | apply below_alloc | apply pw_below_drewN | apply below_drew1 | refine below_set ?_ GEO.out) | exact HB.out)⟩
            clear BKO HB hcz0 hcz1 hfz0 hfz1
            generalize ((wb.setCell ⟨gbo, 0, none⟩ (.pointer none)).setCell ⟨gbo, 1, none⟩ (.slice none 0 0)) = wc at n0_ n1_ ⊢
            have HB := n1_
            have IB : Aside0 (BF w.heap.size gbo ⟨#[]⟩ wc) := ⟨bf_fresh n0_.out GEO.out⟩
            clear n0_ n1_
            have n0_ := Aside0.mk (below_drew1 HB.out)
            clear HB
            have HB := n0_
            clear n0_
            have p208 : 0 ≤ (0 : Int) := (by omega)
            have q208 : 0 < (l0.length : Int) := of_decide_eq_true (by first | (with_reducible assumption) | assumption)
            obtain ⟨ad208, A208_2, c208_2, e208, hx208_0, hx208_1, hx208_2, hl208_2, hi208_2⟩ := at_T37 HR0.out 0 p208 q208
            have hw208_2 := hx208_2
            (try rw [show ((0 : Int)).toNat = 0 from rfl] at hw208_2)
            (try rw [show 0 * 3 = 0 from rfl] at hw208_2)
            (try rw [Addr.add_zero'] at hw208_2)
            have hw208_1 := hx208_1
            (try rw [show ((0 : Int)).toNat = 0 from rfl] at hw208_1)
            (try rw [show 0 * 3 = 0 from rfl] at hw208_1)
            (try rw [Addr.add_zero'] at hw208_1)
            have hw208_0 := hx208_0
            (try rw [show ((0 : Int)).toNat = 0 from rfl] at hw208_0)
            (try rw [show 0 * 3 = 0 from rfl] at hw208_0)
            (try rw [Addr.add_zero'] at hw208_0)
            obtain rfl : adp0 = ad208 := (by injection e208)
            have qi208 : (0 < l0.length) = True := eq_true (by omega)
            (try rw [show ((0 : Int)).toNat = 0 from rfl] at hx208_0)
            (try rw [show 0 * 3 = 0 from rfl] at hx208_0)
            (try rw [Addr.add_zero'] at hx208_0)
            (try rw [show ((0 : Int)).toNat = 0 from rfl] at hx208_1)
            (try rw [show 0 * 3 = 0 from rfl] at hx208_1)
            (try rw [Addr.add_zero'] at hx208_1)
            (try rw [show ((0 : Int)).toNat = 0 from rfl] at hx208_2)
            (try rw [show 0 * 3 = 0 from rfl] at hx208_2)
            (try rw [Addr.add_zero'] at hx208_2)
            replace hx208_0 := (HB.out.cell (World.block_lt_of_cell? w _ hx208_0)).trans hx208_0
            replace hx208_1 := (HB.out.cell (World.block_lt_of_cell? w _ hx208_1)).trans hx208_1
            replace hx208_2 := (HB.out.cell (World.block_lt_of_cell? w _ hx208_2)).trans hx208_2
            have HR208_2 := Aside0.mk hi208_2
            have HC208_2 := Aside0.mk hl208_2
            clear hi208_2 hl208_2
            replace p208 := eq_true p208
            replace q208 := eq_true q208
            have p210 : 0 ≤ (0 : Int) := (by omega)
            have q210 : 0 < (l0.length : Int) := of_decide_eq_true (by first | (with_reducible assumption) | assumption)
            obtain ⟨ad210, A210_2, c210_2, e210, hx210_0, hx210_1, hx210_2, hl210_2, hi210_2⟩ := at_T37 HR0.out 0 p210 q210
            have hw210_2 := hx210_2
            (try rw [show ((0 : Int)).toNat = 0 from rfl] at hw210_2)
            (try rw [show 0 * 3 = 0 from rfl] at hw210_2)
            (try rw [Addr.add_zero'] at hw210_2)
            have hw210_1 := hx210_1
            (try rw [show ((0 : Int)).toNat = 0 from rfl] at hw210_1)
            (try rw [show 0 * 3 = 0 from rfl] at hw210_1)
            (try rw [Addr.add_zero'] at hw210_1)
            have hw210_0 := hx210_0
            (try rw [show ((0 : Int)).toNat = 0 from rfl] at hw210_0)
            (try rw [show 0 * 3 = 0 from rfl] at hw210_0)
            (try rw [Addr.add_zero'] at hw210_0)
            obtain rfl : adp0 = ad210 := (by injection e210)
            have qi210 : (0 < l0.length) = True := eq_true (by omega)
            (try rw [show ((0 : Int)).toNat = 0 from rfl] at hx210_0)
            (try rw [show 0 * 3 = 0 from rfl] at hx210_0)
            (try rw [Addr.add_zero'] at hx210_0)
            (try rw [show ((0 : Int)).toNat = 0 from rfl] at hx210_1)
            (try rw [show 0 * 3 = 0 from rfl] at hx210_1)
            (try rw [Addr.add_zero'] at hx210_1)
            (try rw [show ((0 : Int)).toNat = 0 from rfl] at hx210_2)
            (try rw [show 0 * 3 = 0 from rfl] at hx210_2)
            (try rw [Addr.add_zero'] at hx210_2)
            replace hx210_0 := (HB.out.cell (World.block_lt_of_cell? w _ hx210_0)).trans hx210_0
            replace hx210_1 := (HB.out.cell (World.block_lt_of_cell? w _ hx210_1)).trans hx210_1
            replace hx210_2 := (HB.out.cell (World.block_lt_of_cell? w _ hx210_2)).trans hx210_2
            have HR210_2 := Aside0.mk hi210_2
            have HC210_2 := Aside0.mk hl210_2
            clear hi210_2 hl210_2
            replace p210 := eq_true p210
            replace q210 := eq_true q210
            have ea_ := Option.some.inj (hx208_2.symm.trans hx210_2)
            injection ea_ with ea_ en_ ec_
            subst ea_
            subst ec_
            clear en_
            replace IB := Aside0.mk (bf_drew IB.out)
            refine start_ (n := 14) (S := fun w' => w'.cell? adp0 = some (.int .i8 ((rd_T37 l0 0).f0)) ∧ w'.cell? ⟨adp0.block, adp0.off + 1, none⟩ = some (.int .i8 ((rd_T37 l0 0).f1)) ∧ w'.cell? ⟨adp0.block, adp0.off + 2, none⟩ = some (.slice A208_2 ((rd_T37 l0 0).f2).length c208_2) ∧ w'.cell? adp0 = some (.int .i8 ((rd_T37 l0 0).f0)) ∧ w'.cell? ⟨adp0.block, adp0.off + 1, none⟩ = some (.int .i8 ((rd_T37 l0 0).f1)) ∧ w'.cell? ⟨adp0.block, adp0.off + 2, none⟩ = some (.slice A208_2 ((rd_T37 l0 0).f2).length c208_2)) (ds := []) #[false, false, false, false, false, false, false, false, false, false, false, false, false, false] (by kernel_rfl) rfl rfl ⟨((HB.out.cell (World.block_lt_of_cell? w _ hw208_0)).trans hw208_0), ((HB.out.cell (World.block_lt_of_cell? w _ hw208_1)).trans hw208_1), ((HB.out.cell (World.block_lt_of_cell? w _ hw208_2)).trans hw208_2), ((HB.out.cell (World.block_lt_of_cell? w _ hw210_0)).trans hw210_0), ((HB.out.cell (World.block_lt_of_cell? w _ hw210_1)).trans hw210_1), ((HB.out.cell (World.block_lt_of_cell? w _ hw210_2)).trans hw210_2)⟩ (fun hHeld => ?_); refine with_tabW impl_Board_text.tab2 impl_Board_text.bits2 (fun HT_ HW_ => ?_)
            generalize wc.drew = w9 at HB IB HR208_2 HR210_2 hx208_0 hx208_1 hx208_2 hx210_0 hx210_1 hx210_2 hHeld ⊢
            refine pure_ (i := 0) (N := some 7) (v := ?_) (a' := ?_) #[true, false, false, false, false, false, false, false, false, false, false, false, false, false] rfl rfl (any_of HT_.out (by kernel_rfl)) (fun _ _ _ h => h) (Or.inl ⟨by rfl, ?_⟩) ?_ ?_
            rotate_left
            · intro w'
              go_simp
              with_reducible rfl
            rotate_left
            · simp only [Act.put, List.setIfInBounds_toArray, List.set_cons_zero, List.set_cons_succ, i64_w, i32_w]
              rfl
            refine pure_ (i := 1) (N := some 8) (v := ?_) (a' := ?_) #[true, true, false, false, false, false, false, false, false, false, false, false, false, false] rfl rfl (any_of HT_.out (by kernel_rfl)) (fun _ _ _ h => h) (Or.inl ⟨by rfl, ?_⟩) ?_ ?_
            rotate_left
            · intro w'
              go_simp
              with_reducible rfl
            rotate_left
            · simp only [Act.put, List.setIfInBounds_toArray, List.set_cons_zero, List.set_cons_succ, i64_w, i32_w]
              rfl
            refine pure_ (i := 2) (N := some 9) (v := ?_) (a' := ?_) #[true, true, true, false, false, false, false, false, false, false, false, false, false, false] rfl rfl (any_of HT_.out (by kernel_rfl)) (fun _ _ _ h => h) (Or.inl ⟨by rfl, ?_⟩) ?_ ?_
            rotate_left
            · intro w'
              go_simp
              with_reducible rfl
            rotate_left
            · simp only [Act.put, List.setIfInBounds_toArray, List.set_cons_zero, List.set_cons_succ, i64_w, i32_w]
              rfl
            refine pure_ (i := 6) (N := some 13) (v := ?_) (a' := ?_) #[true, true, true, false, false, false, true, false, false, false, false, false, false, false] rfl rfl (any_of HT_.out (by kernel_rfl)) (fun _ _ _ h => h) (Or.inl ⟨by rfl, ?_⟩) ?_ ?_
            rotate_left
            · intro w'
              go_simp
              with_reducible rfl
            rotate_left
            · simp only [Act.put, List.setIfInBounds_toArray, List.set_cons_zero, List.set_cons_succ, i64_w, i32_w]
              rfl
            refine pure_ (i := 7) (N := some 14) (v := ?_) (a' := ?_) #[true, true, true, false, false, false, true, true, false, false, false, false, false, false] rfl rfl (any_of HT_.out (by kernel_rfl)) (fun _ _ _ h => h) (Or.inl ⟨by rfl, ?_⟩) ?_ ?_
            rotate_left
            · intro w'
              go_simp
              with_reducible rfl
            rotate_left
            · simp only [Act.put, List.setIfInBounds_toArray, List.set_cons_zero, List.set_cons_succ, i64_w, i32_w]
              rfl
            refine pure_ (i := 8) (N := some 15) (v := ?_) (a' := ?_) #[true, true, true, false, false, false, true, true, true, false, false, false, false, false] rfl rfl (any_of HT_.out (by kernel_rfl)) (fun _ _ _ h => h) (Or.inl ⟨by rfl, ?_⟩) ?_ ?_
            rotate_left
            · intro w'
              go_simp
              with_reducible rfl
            rotate_left
            · simp only [Act.put, List.setIfInBounds_toArray, List.set_cons_zero, List.set_cons_succ, i64_w, i32_w]
              rfl
            refine take_ (i := 3) (N := some 10) (v := ?_) (a' := ?_) #[true, true, true, true, false, false, true, true, true, false, false, false, false, false] rfl rfl (take_ofW HT_.out HW_.out (by kernel_rfl)) (fun _ _ _ h => h) (Or.inl ⟨by rfl, ?_⟩) hHeld ?_ ?_
            rotate_left
            · rintro w' ⟨s0, s1, s2, s3, s4, s5⟩
              go_simp
              with_reducible rfl
            rotate_left
            · simp only [Act.put, List.setIfInBounds_toArray, List.set_cons_zero, List.set_cons_succ, i64_w, i32_w]
              rfl
            refine take_ (i := 9) (N := some 16) (v := ?_) (a' := ?_) #[true, true, true, true, false, false, true, true, true, true, false, false, false, false] rfl rfl (take_ofW HT_.out HW_.out (by kernel_rfl)) (fun _ _ _ h => h) (Or.inl ⟨by rfl, ?_⟩) hHeld ?_ ?_
            rotate_left
            · rintro w' ⟨s0, s1, s2, s3, s4, s5⟩
              go_simp
              with_reducible rfl
            rotate_left
            · simp only [Act.put, List.setIfInBounds_toArray, List.set_cons_zero, List.set_cons_succ, i64_w, i32_w]
              rfl
            refine one_ (i := 4) (N := some 11) #[true, true, true, true, true, false, true, true, true, true, false, false, false, false] rfl rfl (one_of HT_.out (by kernel_rfl)) (by decide) (fun K hK => ?_)
            refine goes_ Tryd.func43 (by kernel_rfl) rfl #[.int .i8 ((rd_T37 l0 0).f0)] (by rfl) rfl rfl (by (try simp only [List.map_toArray, List.map_cons, List.map_nil]); first | done | rfl | (simp only [List.length_drop, List.length_take]; rfl)) ?_
            with_reducible refine (impl_decimal_int8.calls ((rd_T37 l0 0).f0) t209 _ A3.out).mono ?_
            rintro e w' ⟨rfl, ⟨nd, rfl⟩⟩
            refine ⟨_, rfl, ?_⟩
            refine hK.out _ _ ⟨((HB.out.cell (World.block_lt_of_cell? w _ hw208_0)).trans hw208_0), ((HB.out.cell (World.block_lt_of_cell? w _ hw208_1)).trans hw208_1), ((HB.out.cell (World.block_lt_of_cell? w _ hw208_2)).trans hw208_2), ((HB.out.cell (World.block_lt_of_cell? w _ hw210_0)).trans hw210_0), ((HB.out.cell (World.block_lt_of_cell? w _ hw210_1)).trans hw210_1), ((HB.out.cell (World.block_lt_of_cell? w _ hw210_2)).trans hw210_2)⟩ (fun hHeld => ?_)
            clear hK K
            refine norm_ (a' := ?_) ?_ ?_
            rotate_left
            · show Act.put _ (some 11) _ = _
              simp only [Act.put, List.setIfInBounds_toArray, List.set_cons_zero, List.set_cons_succ, i64_w, i32_w]
              rfl
            refine pure_ (i := 5) (N := some 12) (v := ?_) (a' := ?_) #[true, true, true, true, true, true, true, true, true, true, false, false, false, false] rfl rfl (any_of HT_.out (by kernel_rfl)) (fun _ _ _ h => h) (Or.inl ⟨by rfl, ?_⟩) ?_ ?_
            rotate_left
            · intro w'
              go_simp
              with_reducible rfl
            rotate_left
            · simp only [Act.put, List.setIfInBounds_toArray, List.set_cons_zero, List.set_cons_succ, i64_w, i32_w]
              rfl
            refine one_ (i := 10) (N := some 17) #[true, true, true, true, true, true, true, true, true, true, true, false, false, false] rfl rfl (one_of HT_.out (by kernel_rfl)) (by decide) (fun K hK => ?_)
            refine goes_ Tryd.func43 (by kernel_rfl) rfl #[.int .i8 ((rd_T37 l0 0).f1)] (by rfl) rfl rfl (by (try simp only [List.map_toArray, List.map_cons, List.map_nil]); first | done | rfl | (simp only [List.length_drop, List.length_take]; rfl)) ?_
            with_reducible refine (impl_decimal_int8.calls ((rd_T37 l0 0).f1) t211 _ A5.out).mono ?_
            rintro e w' ⟨rfl, ⟨nd, rfl⟩⟩
            refine ⟨_, rfl, ?_⟩
            refine hK.out _ _ ⟨((HB.out.cell (World.block_lt_of_cell? w _ hw208_0)).trans hw208_0), ((HB.out.cell (World.block_lt_of_cell? w _ hw208_1)).trans hw208_1), ((HB.out.cell (World.block_lt_of_cell? w _ hw208_2)).trans hw208_2), ((HB.out.cell (World.block_lt_of_cell? w _ hw210_0)).trans hw210_0), ((HB.out.cell (World.block_lt_of_cell? w _ hw210_1)).trans hw210_1), ((HB.out.cell (World.block_lt_of_cell? w _ hw210_2)).trans hw210_2)⟩ (fun hHeld => ?_)
            clear hK K
            refine norm_ (a' := ?_) ?_ ?_
            rotate_left
            · show Act.put _ (some 17) _ = _
              simp only [Act.put, List.setIfInBounds_toArray, List.set_cons_zero, List.set_cons_succ, i64_w, i32_w]
              rfl
            refine pure_ (i := 11) (N := some 18) (v := ?_) (a' := ?_) #[true, true, true, true, true, true, true, true, true, true, true, true, false, false] rfl rfl (any_of HT_.out (by kernel_rfl)) (fun _ _ _ h => h) (Or.inl ⟨by rfl, ?_⟩) ?_ ?_
            rotate_left
            · intro w'
              go_simp
              with_reducible rfl
            rotate_left
            · simp only [Act.put, List.setIfInBounds_toArray, List.set_cons_zero, List.set_cons_succ, i64_w, i32_w]
              rfl
            refine pure_ (i := 12) (N := some 19) (v := ?_) (a' := ?_) #[true, true, true, true, true, true, true, true, true, true, true, true, true, false] rfl rfl (any_of HT_.out (by kernel_rfl)) (fun _ _ _ h => h) (Or.inl ⟨by rfl, ?_⟩) ?_ ?_
            rotate_left
            · intro w'
              go_simp
              with_reducible rfl
            rotate_left
            · simp only [Act.put, List.setIfInBounds_toArray, List.set_cons_zero, List.set_cons_succ, i64_w, i32_w]
              rfl
            refine one_ (i := 13) (N := some 20) #[true, true, true, true, true, true, true, true, true, true, true, true, true, true] rfl rfl (one_of HT_.out (by kernel_rfl)) (by decide) (fun K hK => ?_)
            refine goes_ Tryd.func22 (by kernel_rfl) rfl #[.pointer (some ⟨gbo, 0, none⟩), .string (((t209 ++ (⟨#[32]⟩ : ByteArray)) ++ t211) ++ (⟨#[10]⟩ : ByteArray))] (by rfl) rfl rfl (by (try simp only [List.map_toArray, List.map_cons, List.map_nil]); first | done | rfl | (simp only [List.length_drop, List.length_take]; rfl)) ?_
            refine (builder_write w.heap.size gbo (⟨#[]⟩ : ByteArray) (((t209 ++ (⟨#[32]⟩ : ByteArray)) ++ t211) ++ (⟨#[10]⟩ : ByteArray)) _ (by repeat (first | (with_reducible exact IB.out) | apply bf_drewN | apply bf_drew)) (by have q_ := c8; simp only [ByteArray.size_append]; have l0_ : (⟨#[10]⟩ : ByteArray).size = 1 := rfl; have l1_ : (⟨#[32]⟩ : ByteArray).size = 1 := rfl; have l2_ : (⟨#[]⟩ : ByteArray).size = 0 := rfl; omega) (below_size (by repeat (first | (with_reducible first | exact HB.out | apply below_alloc | apply pw_below_drewN | apply below_drew1) | exact HB.out)))).mono ?_
            rintro e w40 ⟨rfl, hb1, hbel, hoth⟩
            have n0_ := Aside0.mk (Below.trans (by repeat (first | (with_reducible first | exact HB.out | apply below_alloc | apply pw_below_drewN | apply below_drew1) | exact HB.out)) hbel)
            have n1_ := Aside0.mk hb1
            clear HB IB
            have HB := n0_
            have IB := n1_
            clear n0_ n1_ hb1 hbel hoth
            refine ⟨_, rfl, ?_⟩
            refine hK.out _ _ ⟨((HB.out.cell (World.block_lt_of_cell? w _ hw208_0)).trans hw208_0), ((HB.out.cell (World.block_lt_of_cell? w _ hw208_1)).trans hw208_1), ((HB.out.cell (World.block_lt_of_cell? w _ hw208_2)).trans hw208_2), ((HB.out.cell (World.block_lt_of_cell? w _ hw210_0)).trans hw210_0), ((HB.out.cell (World.block_lt_of_cell? w _ hw210_1)).trans hw210_1), ((HB.out.cell (World.block_lt_of_cell? w _ hw210_2)).trans hw210_2)⟩ (fun hHeld => ?_)
            clear hK K
            refine norm_ (a' := ?_) ?_ ?_
            rotate_left
            · show Act.put _ (some 20) _ = _
              simp only [Act.put, List.setIfInBounds_toArray, List.set_cons_zero, List.set_cons_succ, i64_w, i32_w]
              rfl
            refine done_ (done_of HT_.out (by kernel_rfl)) ?_
            have p212 : 0 ≤ (0 : Int) := (by omega)
            have q212 : 0 < (l0.length : Int) := of_decide_eq_true (by first | (with_reducible assumption) | assumption)
            obtain ⟨ad212, A212_2, c212_2, e212, hx212_0, hx212_1, hx212_2, hl212_2, hi212_2⟩ := at_T37 HR0.out 0 p212 q212
            obtain rfl : adp0 = ad212 := (by injection e212)
            have qi212 : (0 < l0.length) = True := eq_true (by omega)
            (try rw [show ((0 : Int)).toNat = 0 from rfl] at hx212_0)
            (try rw [show 0 * 3 = 0 from rfl] at hx212_0)
            (try rw [Addr.add_zero'] at hx212_0)
            (try rw [show ((0 : Int)).toNat = 0 from rfl] at hx212_1)
            (try rw [show 0 * 3 = 0 from rfl] at hx212_1)
            (try rw [Addr.add_zero'] at hx212_1)
            (try rw [show ((0 : Int)).toNat = 0 from rfl] at hx212_2)
            (try rw [show 0 * 3 = 0 from rfl] at hx212_2)
            (try rw [Addr.add_zero'] at hx212_2)
            replace hx212_0 := (HB.out.cell (World.block_lt_of_cell? w _ hx212_0)).trans hx212_0
            replace hx212_1 := (HB.out.cell (World.block_lt_of_cell? w _ hx212_1)).trans hx212_1
            replace hx212_2 := (HB.out.cell (World.block_lt_of_cell? w _ hx212_2)).trans hx212_2
            have HR212_2 := Aside0.mk hi212_2
            have HC212_2 := Aside0.mk hl212_2
            clear hi212_2 hl212_2
            replace p212 := eq_true p212
            replace q212 := eq_true q212
            have ea_ := Option.some.inj (((HB.out.cell (World.block_lt_of_cell? w _ hw208_2)).trans hw208_2).symm.trans hx212_2)
            injection ea_ with ea_ en_ ec_
            subst ea_
            subst ec_
            clear en_
            try go_wp2
            go_loopg [26] k (fun kq v26 w' => ∃ (x3_1 : ByteArray) (x26_1 : Int), v26 = .int .i64 x26_1 ∧ Aside0 (impl_Board_text.l0 kq x3_1 ((rd_T37 l0 0).f2) (((rd_T37 l0 0).f2).length : Int) x26_1 = some r) ∧ Aside0 (kq ≤ k) ∧ Aside0 (Below w.heap.size w w') ∧ Aside0 (BF w.heap.size gbo x3_1 w'))
            case atStart => exact ⟨((⟨#[]⟩ : ByteArray) ++ (((t209 ++ (⟨#[32]⟩ : ByteArray)) ++ t211) ++ (⟨#[10]⟩ : ByteArray))), (0), (by first | rfl | (simp; done) | (simp [*]; done) | (exact congrArg (Value.int .i64) (wrap_eq (by omega)))), H', ⟨Nat.le_refl _⟩, ⟨by repeat (first | (with_reducible first | exact HB.out | apply below_alloc | apply pw_below_drewN | apply below_drew1) | exact HB.out)⟩, ⟨(by repeat (first | (with_reducible exact IB.out) | apply bf_drewN | apply bf_drew))⟩⟩
            case round =>
              clear H'
              try clear c2
              try clear c2b0
              try clear c2b1
              try clear p2
              try clear q2
              try clear hx2
              try clear qi2
              try clear c3
              try clear c4
              try clear c4b0
              try clear c4b1
              try clear c4b2
              try clear c6
              try clear c6b0
              try clear c6b1
              try clear c6b2
              try clear c7
              try clear c7b0
              try clear c7b1
              try clear c7b2
              try clear c8
              try clear c8b0
              try clear c8b1
              try clear c8b2
              try clear hx208_0
              try clear hx208_1
              try clear hx208_2
              try clear hx210_0
              try clear hx210_1
              try clear hx210_2
              try clear hx212_0
              try clear hx212_1
              try clear hx212_2
              try clear p208
              try clear p210
              try clear p212
              try clear q208
              try clear q210
              try clear q212
              obtain ⟨x3_1, x26_1, rfl, HA, HK1, HB, IB⟩ := hrel
              cases gk with
              | zero => exact absurd HA.out (by simp [impl_Board_text.l0])
              | succ k1 =>
                have H := HA.out
                clear HA
                simp only [impl_Board_text.l0] at H
                by_cases c10 : x26_1 < (((rd_T37 l0 0).f2).length : Int)
                · rw [if_pos c10] at H
                  have c10b0 : decide (x26_1 < (((rd_T37 l0 0).f2).length : Int)) = true := decide_eq_true c10
                  clear c10
                  by_cases c11 : 0 ≤ x26_1
                  · rw [if_pos c11] at H
                    have c11b0 : decide (0 ≤ x26_1) = true := decide_eq_true c11
                    clear c11
                    by_cases c12 : x26_1 < (((rd_T37 l0 0).f2).length : Int)
                    · rw [if_pos c12] at H
                      have c12b0 : decide (x26_1 < (((rd_T37 l0 0).f2).length : Int)) = true := decide_eq_true c12
                      clear c12
                      replace H := Option.bind_eq_some_iff.mp H
                      obtain ⟨t215, A130, H⟩ := H
                      replace H : (if t215.size + 1 ≤ 9223372036854775807 then ((impl_kindNames.f).bind fun t216 => (if 0 ≤ ((rd_T85 ((rd_T37 l0 0).f2) x26_1).f1) then (if ((rd_T85 ((rd_T37 l0 0).f2) x26_1).f1) < (t216.length : Int) then (if t215.size + 1 + (rdOf ByteArray.empty t216 ((rd_T85 ((rd_T37 l0 0).f2) x26_1).f1)).size ≤ 9223372036854775807 then (if t215.size + 1 + (rdOf ByteArray.empty t216 ((rd_T85 ((rd_T37 l0 0).f2) x26_1).f1)).size + 1 ≤ 9223372036854775807 then ((impl_decimal_int8.f ((rd_T85 ((rd_T37 l0 0).f2) x26_1).f2)).bind fun t220 => (if t215.size + 1 + (rdOf ByteArray.empty t216 ((rd_T85 ((rd_T37 l0 0).f2) x26_1).f1)).size + 1 + t220.size ≤ 9223372036854775807 then (if t215.size + 1 + (rdOf ByteArray.empty t216 ((rd_T85 ((rd_T37 l0 0).f2) x26_1).f1)).size + 1 + t220.size + 1 ≤ 9223372036854775807 then ((impl_decimal_int8.f ((rd_T85 ((rd_T37 l0 0).f2) x26_1).f3)).bind fun t221 => (if t215.size + 1 + (rdOf ByteArray.empty t216 ((rd_T85 ((rd_T37 l0 0).f2) x26_1).f1)).size + 1 + t220.size + 1 + t221.size ≤ 9223372036854775807 then (if t215.size + 1 + (rdOf ByteArray.empty t216 ((rd_T85 ((rd_T37 l0 0).f2) x26_1).f1)).size + 1 + t220.size + 1 + t221.size + 1 ≤ 9223372036854775807 then (if x3_1.size + t215.size + 1 + (rdOf ByteArray.empty t216 ((rd_T85 ((rd_T37 l0 0).f2) x26_1).f1)).size + 1 + t220.size + 1 + t221.size + 1 ≤ 140737488355328 then (impl_Board_text.l0 k1 (x3_1 ++ (((((((t215 ++ (⟨#[32]⟩ : ByteArray)) ++ (rdOf ByteArray.empty t216 ((rd_T85 ((rd_T37 l0 0).f2) x26_1).f1))) ++ (⟨#[32]⟩ : ByteArray)) ++ t220) ++ (⟨#[32]⟩ : ByteArray)) ++ t221) ++ (⟨#[10]⟩ : ByteArray))) ((rd_T37 l0 0).f2) (((rd_T37 l0 0).f2).length : Int) (wrap64 (x26_1 + 1))) else (none)) else (none)) else (none))) else (none)) else (none))) else (none)) else (none)) else (none)) else (none))) else (none)) = some r := H
                      have A13 := Aside0.mk A130
                      clear A130
                      by_cases c14 : t215.size + 1 ≤ 9223372036854775807
                      · rw [if_pos c14] at H
                        have c14b0 := eq_true c14
                        have c14b1 : decide (t215.size + 1 ≤ 9223372036854775807) = true := decide_eq_true c14
                        try have c14b2 : (9223372036854775807 < t215.size + 1) = False := eq_false (Nat.not_lt.2 c14)
                        replace H := Option.bind_eq_some_iff.mp H
                        obtain ⟨t216, A150, H⟩ := H
                        replace H : (if 0 ≤ ((rd_T85 ((rd_T37 l0 0).f2) x26_1).f1) then (if ((rd_T85 ((rd_T37 l0 0).f2) x26_1).f1) < (t216.length : Int) then (if t215.size + 1 + (rdOf ByteArray.empty t216 ((rd_T85 ((rd_T37 l0 0).f2) x26_1).f1)).size ≤ 9223372036854775807 then (if t215.size + 1 + (rdOf ByteArray.empty t216 ((rd_T85 ((rd_T37 l0 0).f2) x26_1).f1)).size + 1 ≤ 9223372036854775807 then ((impl_decimal_int8.f ((rd_T85 ((rd_T37 l0 0).f2) x26_1).f2)).bind fun t220 => (if t215.size + 1 + (rdOf ByteArray.empty t216 ((rd_T85 ((rd_T37 l0 0).f2) x26_1).f1)).size + 1 + t220.size ≤ 9223372036854775807 then (if t215.size + 1 + (rdOf ByteArray.empty t216 ((rd_T85 ((rd_T37 l0 0).f2) x26_1).f1)).size + 1 + t220.size + 1 ≤ 9223372036854775807 then ((impl_decimal_int8.f ((rd_T85 ((rd_T37 l0 0).f2) x26_1).f3)).bind fun t221 => (if t215.size + 1 + (rdOf ByteArray.empty t216 ((rd_T85 ((rd_T37 l0 0).f2) x26_1).f1)).size + 1 + t220.size + 1 + t221.size ≤ 9223372036854775807 then (if t215.size + 1 + (rdOf ByteArray.empty t216 ((rd_T85 ((rd_T37 l0 0).f2) x26_1).f1)).size + 1 + t220.size + 1 + t221.size + 1 ≤ 9223372036854775807 then (if x3_1.size + t215.size + 1 + (rdOf ByteArray.empty t216 ((rd_T85 ((rd_T37 l0 0).f2) x26_1).f1)).size + 1 + t220.size + 1 + t221.size + 1 ≤ 140737488355328 then (impl_Board_text.l0 k1 (x3_1 ++ (((((((t215 ++ (⟨#[32]⟩ : ByteArray)) ++ (rdOf ByteArray.empty t216 ((rd_T85 ((rd_T37 l0 0).f2) x26_1).f1))) ++ (⟨#[32]⟩ : ByteArray)) ++ t220) ++ (⟨#[32]⟩ : ByteArray)) ++ t221) ++ (⟨#[10]⟩ : ByteArray))) ((rd_T37 l0 0).f2) (((rd_T37 l0 0).f2).length : Int) (wrap64 (x26_1 + 1))) else (none)) else (none)) else (none))) else (none)) else (none))) else (none)) else (none)) else (none)) else (none)) = some r := H
                        have A15 := Aside0.mk A150
                        clear A150
                        by_cases c16 : 0 ≤ ((rd_T85 ((rd_T37 l0 0).f2) x26_1).f1)
                        · rw [if_pos c16] at H
                          have c16b0 : decide (0 ≤ ((rd_T85 ((rd_T37 l0 0).f2) x26_1).f1)) = true := decide_eq_true c16
                          clear c16
                          by_cases c17 : ((rd_T85 ((rd_T37 l0 0).f2) x26_1).f1) < (t216.length : Int)
                          · rw [if_pos c17] at H
                            have c17b0 : decide (((rd_T85 ((rd_T37 l0 0).f2) x26_1).f1) < (t216.length : Int)) = true := decide_eq_true c17
                            clear c17
                            by_cases c18 : t215.size + 1 + (rdOf ByteArray.empty t216 ((rd_T85 ((rd_T37 l0 0).f2) x26_1).f1)).size ≤ 9223372036854775807
                            · rw [if_pos c18] at H
                              have c18b0 := eq_true c18
                              have c18b1 : decide (t215.size + 1 + (rdOf ByteArray.empty t216 ((rd_T85 ((rd_T37 l0 0).f2) x26_1).f1)).size ≤ 9223372036854775807) = true := decide_eq_true c18
                              try have c18b2 : (9223372036854775807 < t215.size + 1 + (rdOf ByteArray.empty t216 ((rd_T85 ((rd_T37 l0 0).f2) x26_1).f1)).size) = False := eq_false (Nat.not_lt.2 c18)
                              by_cases c19 : t215.size + 1 + (rdOf ByteArray.empty t216 ((rd_T85 ((rd_T37 l0 0).f2) x26_1).f1)).size + 1 ≤ 9223372036854775807
                              · rw [if_pos c19] at H
                                have c19b0 := eq_true c19
                                have c19b1 : decide (t215.size + 1 + (rdOf ByteArray.empty t216 ((rd_T85 ((rd_T37 l0 0).f2) x26_1).f1)).size + 1 ≤ 9223372036854775807) = true := decide_eq_true c19
                                try have c19b2 : (9223372036854775807 < t215.size + 1 + (rdOf ByteArray.empty t216 ((rd_T85 ((rd_T37 l0 0).f2) x26_1).f1)).size + 1) = False := eq_false (Nat.not_lt.2 c19)
                                replace H := Option.bind_eq_some_iff.mp H
                                obtain ⟨t220, A200, H⟩ := H
                                replace H : (if t215.size + 1 + (rdOf ByteArray.empty t216 ((rd_T85 ((rd_T37 l0 0).f2) x26_1).f1)).size + 1 + t220.size ≤ 9223372036854775807 then (if t215.size + 1 + (rdOf ByteArray.empty t216 ((rd_T85 ((rd_T37 l0 0).f2) x26_1).f1)).size + 1 + t220.size + 1 ≤ 9223372036854775807 then ((impl_decimal_int8.f ((rd_T85 ((rd_T37 l0 0).f2) x26_1).f3)).bind fun t221 => (if t215.size + 1 + (rdOf ByteArray.empty t216 ((rd_T85 ((rd_T37 l0 0).f2) x26_1).f1)).size + 1 + t220.size + 1 + t221.size ≤ 9223372036854775807 then (if t215.size + 1 + (rdOf ByteArray.empty t216 ((rd_T85 ((rd_T37 l0 0).f2) x26_1).f1)).size + 1 + t220.size + 1 + t221.size + 1 ≤ 9223372036854775807 then (if x3_1.size + t215.size + 1 + (rdOf ByteArray.empty t216 ((rd_T85 ((rd_T37 l0 0).f2) x26_1).f1)).size + 1 + t220.size + 1 + t221.size + 1 ≤ 140737488355328 then (impl_Board_text.l0 k1 (x3_1 ++ (((((((t215 ++ (⟨#[32]⟩ : ByteArray)) ++ (rdOf ByteArray.empty t216 ((rd_T85 ((rd_T37 l0 0).f2) x26_1).f1))) ++ (⟨#[32]⟩ : ByteArray)) ++ t220) ++ (⟨#[32]⟩ : ByteArray)) ++ t221) ++ (⟨#[10]⟩ : ByteArray))) ((rd_T37 l0 0).f2) (((rd_T37 l0 0).f2).length : Int) (wrap64 (x26_1 + 1))) else (none)) else (none)) else (none))) else (none)) else (none)) = some r := H
                                have A20 := Aside0.mk A200
                                clear A200
                                by_cases c21 : t215.size + 1 + (rdOf ByteArray.empty t216 ((rd_T85 ((rd_T37 l0 0).f2) x26_1).f1)).size + 1 + t220.size ≤ 9223372036854775807
                                · rw [if_pos c21] at H
                                  have c21b0 := eq_true c21
                                  have c21b1 : decide (t215.size + 1 + (rdOf ByteArray.empty t216 ((rd_T85 ((rd_T37 l0 0).f2) x26_1).f1)).size + 1 + t220.size ≤ 9223372036854775807) = true := decide_eq_true c21
                                  try have c21b2 : (9223372036854775807 < t215.size + 1 + (rdOf ByteArray.empty t216 ((rd_T85 ((rd_T37 l0 0).f2) x26_1).f1)).size + 1 + t220.size) = False := eq_false (Nat.not_lt.2 c21)
                                  by_cases c22 : t215.size + 1 + (rdOf ByteArray.empty t216 ((rd_T85 ((rd_T37 l0 0).f2) x26_1).f1)).size + 1 + t220.size + 1 ≤ 9223372036854775807
                                  · rw [if_pos c22] at H
                                    have c22b0 := eq_true c22
                                    have c22b1 : decide (t215.size + 1 + (rdOf ByteArray.empty t216 ((rd_T85 ((rd_T37 l0 0).f2) x26_1).f1)).size + 1 + t220.size + 1 ≤ 9223372036854775807) = true := decide_eq_true c22
                                    try have c22b2 : (9223372036854775807 < t215.size + 1 + (rdOf ByteArray.empty t216 ((rd_T85 ((rd_T37 l0 0).f2) x26_1).f1)).size + 1 + t220.size + 1) = False := eq_false (Nat.not_lt.2 c22)
                                    replace H := Option.bind_eq_some_iff.mp H
                                    obtain ⟨t221, A230, H⟩ := H
                                    replace H : (if t215.size + 1 + (rdOf ByteArray.empty t216 ((rd_T85 ((rd_T37 l0 0).f2) x26_1).f1)).size + 1 + t220.size + 1 + t221.size ≤ 9223372036854775807 then (if t215.size + 1 + (rdOf ByteArray.empty t216 ((rd_T85 ((rd_T37 l0 0).f2) x26_1).f1)).size + 1 + t220.size + 1 + t221.size + 1 ≤ 9223372036854775807 then (if x3_1.size + t215.size + 1 + (rdOf ByteArray.empty t216 ((rd_T85 ((rd_T37 l0 0).f2) x26_1).f1)).size + 1 + t220.size + 1 + t221.size + 1 ≤ 140737488355328 then (impl_Board_text.l0 k1 (x3_1 ++ (((((((t215 ++ (⟨#[32]⟩ : ByteArray)) ++ (rdOf ByteArray.empty t216 ((rd_T85 ((rd_T37 l0 0).f2) x26_1).f1))) ++ (⟨#[32]⟩ : ByteArray)) ++ t220) ++ (⟨#[32]⟩ : ByteArray)) ++ t221) ++ (⟨#[10]⟩ : ByteArray))) ((rd_T37 l0 0).f2) (((rd_T37 l0 0).f2).length : Int) (wrap64 (x26_1 + 1))) else (none)) else (none)) else (none)) = some r := H
                                    have A23 := Aside0.mk A230
                                    clear A230
                                    by_cases c24 : t215.size + 1 + (rdOf ByteArray.empty t216 ((rd_T85 ((rd_T37 l0 0).f2) x26_1).f1)).size + 1 + t220.size + 1 + t221.size ≤ 9223372036854775807
                                    · rw [if_pos c24] at H
                                      have c24b0 := eq_true c24
                                      have c24b1 : decide (t215.size + 1 + (rdOf ByteArray.empty t216 ((rd_T85 ((rd_T37 l0 0).f2) x26_1).f1)).size + 1 + t220.size + 1 + t221.size ≤ 9223372036854775807) = true := decide_eq_true c24
                                      try have c24b2 : (9223372036854775807 < t215.size + 1 + (rdOf ByteArray.empty t216 ((rd_T85 ((rd_T37 l0 0).f2) x26_1).f1)).size + 1 + t220.size + 1 + t221.size) = False := eq_false (Nat.not_lt.2 c24)
                                      by_cases c25 : t215.size + 1 + (rdOf ByteArray.empty t216 ((rd_T85 ((rd_T37 l0 0).f2) x26_1).f1)).size + 1 + t220.size + 1 + t221.size + 1 ≤ 9223372036854775807
                                      · rw [if_pos c25] at H
                                        have c25b0 := eq_true c25
                                        have c25b1 : decide (t215.size + 1 + (rdOf ByteArray.empty t216 ((rd_T85 ((rd_T37 l0 0).f2) x26_1).f1)).size + 1 + t220.size + 1 + t221.size + 1 ≤ 9223372036854775807) = true := decide_eq_true c25
                                        try have c25b2 : (9223372036854775807 < t215.size + 1 + (rdOf ByteArray.empty t216 ((rd_T85 ((rd_T37 l0 0).f2) x26_1).f1)).size + 1 + t220.size + 1 + t221.size + 1) = False := eq_false (Nat.not_lt.2 c25)
                                        by_cases c26 : x3_1.size + t215.size + 1 + (rdOf ByteArray.empty t216 ((rd_T85 ((rd_T37 l0 0).f2) x26_1).f1)).size + 1 + t220.size + 1 + t221.size + 1 ≤ 140737488355328
                                        · rw [if_pos c26] at H
                                          have c26b0 := eq_true c26
                                          have c26b1 : decide (x3_1.size + t215.size + 1 + (rdOf ByteArray.empty t216 ((rd_T85 ((rd_T37 l0 0).f2) x26_1).f1)).size + 1 + t220.size + 1 + t221.size + 1 ≤ 140737488355328) = true := decide_eq_true c26
                                          try have c26b2 : (9223372036854775807 < x3_1.size + t215.size + 1 + (rdOf ByteArray.empty t216 ((rd_T85 ((rd_T37 l0 0).f2) x26_1).f1)).size + 1 + t220.size + 1 + t221.size + 1) = False := eq_false (Nat.not_lt.2 c26)
                                          have H' := Aside0.mk H
                                          clear H
                                          have p213 : 0 ≤ (x26_1 : Int) := of_decide_eq_true (by first | (with_reducible assumption) | assumption)
                                          have q213 : x26_1 < (((rd_T37 l0 0).f2).length : Int) := of_decide_eq_true (by first | (with_reducible assumption) | assumption)
                                          obtain ⟨ad213, e213, hx213_0, hx213_1, hx213_2, hx213_3, hx213_4⟩ := at_T85 HR212_2.out x26_1 p213 q213
                                          cases e213
                                          replace hx213_0 := (HB.out.cell (World.block_lt_of_cell? w _ hx213_0)).trans hx213_0
                                          replace hx213_1 := (HB.out.cell (World.block_lt_of_cell? w _ hx213_1)).trans hx213_1
                                          replace hx213_2 := (HB.out.cell (World.block_lt_of_cell? w _ hx213_2)).trans hx213_2
                                          replace hx213_3 := (HB.out.cell (World.block_lt_of_cell? w _ hx213_3)).trans hx213_3
                                          replace hx213_4 := (HB.out.cell (World.block_lt_of_cell? w _ hx213_4)).trans hx213_4
                                          replace p213 := eq_true p213
                                          replace q213 := eq_true q213
                                          try go_wp2_with (first | ((with_reducible refine gate_dst (N := 5) rfl ?_); refine box_event ?hg (N := 5) ?hd (cs := #[.int .i8 0, .int .i8 0, .int .i8 0, .int .i8 0, .int .i8 0]) (t := 85) ?hr ?_; (case hd => rfl); (case hg => rfl); (case hr => first | (go_simp; done) | (go_simp; rfl)); intro gb214 hg w27 hbox hb; have n0_ := Aside0.mk (below_step (by repeat (first | (with_reducible first | exact HB.out | apply below_alloc | apply pw_below_drewN | apply below_drew1) | exact HB.out)) hb); have n1_ := Aside0.mk (hbox); have n2_ := Aside0.mk ((by rw [hg]; exact (below_size (by repeat (first | (with_reducible first | exact HB.out | apply below_alloc | apply pw_below_drewN | apply below_drew1) | exact HB.out))) : w.heap.size ≤ gb214)); have n3_ := Aside0.mk ((by rw [hg]; exact (below_size (by repeat (first | (with_reducible first | exact HB.out | apply below_alloc | apply pw_below_drewN | apply below_drew1) | exact HB.out))) : w.heap.size ≤ gb214)); clear HB; have HB := n0_; have BK214 := n1_; have GW214 := n2_; have GE214 := n3_; clear n0_ n1_ n2_ n3_; have nI_ := Aside0.mk (bf_below (by repeat (first | (with_reducible exact IB.out) | apply bf_drewN | apply bf_drew)) hb); clear IB; have IB := nI_; clear nI_; clear hb hbox hg; have hcz28_0 : w27.cell? ⟨gb214, 0, none⟩ = some (.int .i8 0) := (blk_cell BK214.out 0).trans rfl; have hcz28_1 : w27.cell? ⟨gb214, 1, none⟩ = some (.int .i8 0) := (blk_cell BK214.out 1).trans rfl; have hcz28_2 : w27.cell? ⟨gb214, 2, none⟩ = some (.int .i8 0) := (blk_cell BK214.out 2).trans rfl; have hcz28_3 : w27.cell? ⟨gb214, 3, none⟩ = some (.int .i8 0) := (blk_cell BK214.out 3).trans rfl; have hcz28_4 : w27.cell? ⟨gb214, 4, none⟩ = some (.int .i8 0) := (blk_cell BK214.out 4).trans rfl; have hfz28_0 := blk_frozen BK214.out 0; have hfz28_1 := blk_frozen BK214.out 1; have hfz28_2 := blk_frozen BK214.out 2; have hfz28_3 := blk_frozen BK214.out 3; have hfz28_4 := blk_frozen BK214.out 4))
                                          have n0_ : Aside0 ((((((w27.setCell ⟨gb214, 0, none⟩ (.int .i8 ((rd_T85 ((rd_T37 l0 0).f2) x26_1).f0.f0))).setCell ⟨gb214, 1, none⟩ (.int .i8 ((rd_T85 ((rd_T37 l0 0).f2) x26_1).f0.f1))).setCell ⟨gb214, 2, none⟩ (.int .i8 ((rd_T85 ((rd_T37 l0 0).f2) x26_1).f1))).setCell ⟨gb214, 3, none⟩ (.int .i8 ((rd_T85 ((rd_T37 l0 0).f2) x26_1).f2))).setCell ⟨gb214, 4, none⟩ (.int .i8 ((rd_T85 ((rd_T37 l0 0).f2) x26_1).f3))).heap[gb214]? = some (.cells #[.int .i8 ((rd_T85 ((rd_T37 l0 0).f2) x26_1).f0.f0), .int .i8 ((rd_T85 ((rd_T37 l0 0).f2) x26_1).f0.f1), .int .i8 ((rd_T85 ((rd_T37 l0 0).f2) x26_1).f1), .int .i8 ((rd_T85 ((rd_T37 l0 0).f2) x26_1).f2), .int .i8 ((rd_T85 ((rd_T37 l0 0).f2) x26_1).f3)] 85 (0, 0))) := ⟨by (with_reducible repeat (first | refine blk_drewN ?_ _ | refine blk_drew ?_ | refine blk_alloc ?_ _)); refine blk_put (cs := #[.int .i8 ((rd_T85 ((rd_T37 l0 0).f2) x26_1).f0.f0), .int .i8 ((rd_T85 ((rd_T37 l0 0).f2) x26_1).f0.f1), .int .i8 ((rd_T85 ((rd_T37 l0 0).f2) x26_1).f1), .int .i8 ((rd_T85 ((rd_T37 l0 0).f2) x26_1).f2), .int .i8 0]) ?_ 4 _ rfl; (with_reducible repeat (first | refine blk_drewN ?_ _ | refine blk_drew ?_ | refine blk_alloc ?_ _)); refine blk_put (cs := #[.int .i8 ((rd_T85 ((rd_T37 l0 0).f2) x26_1).f0.f0), .int .i8 ((rd_T85 ((rd_T37 l0 0).f2) x26_1).f0.f1), .int .i8 ((rd_T85 ((rd_T37 l0 0).f2) x26_1).f1), .int .i8 0, .int .i8 0]) ?_ 3 _ rfl; (with_reducible repeat (first | refine blk_drewN ?_ _ | refine blk_drew ?_ | refine blk_alloc ?_ _)); refine blk_put (cs := #[.int .i8 ((rd_T85 ((rd_T37 l0 0).f2) x26_1).f0.f0), .int .i8 ((rd_T85 ((rd_T37 l0 0).f2) x26_1).f0.f1), .int .i8 0, .int .i8 0, .int .i8 0]) ?_ 2 _ rfl; (with_reducible repeat (first | refine blk_drewN ?_ _ | refine blk_drew ?_ | refine blk_alloc ?_ _)); refine blk_put (cs := #[.int .i8 ((rd_T85 ((rd_T37 l0 0).f2) x26_1).f0.f0), .int .i8 0, .int .i8 0, .int .i8 0, .int .i8 0]) ?_ 1 _ rfl; (with_reducible repeat (first | refine blk_drewN ?_ _ | refine blk_drew ?_ | refine blk_alloc ?_ _)); refine blk_put (cs := #[.int .i8 0, .int .i8 0, .int .i8 0, .int .i8 0, .int .i8 0]) ?_ 0 _ rfl; (with_reducible repeat (first | refine blk_drewN ?_ _ | refine blk_drew ?_ | refine blk_alloc ?_ _)); exact BK214.out⟩
                                          have n1_ : Aside0 (Below w.heap.size w (((((w27.setCell ⟨gb214, 0, none⟩ (.int .i8 ((rd_T85 ((rd_T37 l0 0).f2) x26_1).f0.f0))).setCell ⟨gb214, 1, none⟩ (.int .i8 ((rd_T85 ((rd_T37 l0 0).f2) x26_1).f0.f1))).setCell ⟨gb214, 2, none⟩ (.int .i8 ((rd_T85 ((rd_T37 l0 0).f2) x26_1).f1))).setCell ⟨gb214, 3, none⟩ (.int .i8 ((rd_T85 ((rd_T37 l0 0).f2) x26_1).f2))).setCell ⟨gb214, 4, none⟩ (.int .i8 ((rd_T85 ((rd_T37 l0 0).f2) x26_1).f3)))) := ⟨by repeat (first | (with_reducible first | exact HB.out | apply below_alloc | apply pw_below_drewN | apply below_drew1 | refine below_set ?_ GE214.out) | exact HB.out)⟩
                                          have nI_ : Aside0 (BF w.heap.size gbo x3_1 (((((w27.setCell ⟨gb214, 0, none⟩ (.int .i8 ((rd_T85 ((rd_T37 l0 0).f2) x26_1).f0.f0))).setCell ⟨gb214, 1, none⟩ (.int .i8 ((rd_T85 ((rd_T37 l0 0).f2) x26_1).f0.f1))).setCell ⟨gb214, 2, none⟩ (.int .i8 ((rd_T85 ((rd_T37 l0 0).f2) x26_1).f1))).setCell ⟨gb214, 3, none⟩ (.int .i8 ((rd_T85 ((rd_T37 l0 0).f2) x26_1).f2))).setCell ⟨gb214, 4, none⟩ (.int .i8 ((rd_T85 ((rd_T37 l0 0).f2) x26_1).f3)))) := ⟨by have q_ : BF w.heap.size gbo x3_1 w27 ∧ Ty gb214 85 w27 := ⟨IB.out, _, _, BK214.out⟩; exact (bf_set (bf_set (bf_set (bf_set (bf_set q_ (by decide) (by decide) _ _) (by decide) (by decide) _ _) (by decide) (by decide) _ _) (by decide) (by decide) _ _) (by decide) (by decide) _ _).1⟩
                                          (try clear BK214)
                                          (try clear HB)
                                          generalize (((((w27.setCell ⟨gb214, 0, none⟩ (.int .i8 ((rd_T85 ((rd_T37 l0 0).f2) x26_1).f0.f0))).setCell ⟨gb214, 1, none⟩ (.int .i8 ((rd_T85 ((rd_T37 l0 0).f2) x26_1).f0.f1))).setCell ⟨gb214, 2, none⟩ (.int .i8 ((rd_T85 ((rd_T37 l0 0).f2) x26_1).f1))).setCell ⟨gb214, 3, none⟩ (.int .i8 ((rd_T85 ((rd_T37 l0 0).f2) x26_1).f2))).setCell ⟨gb214, 4, none⟩ (.int .i8 ((rd_T85 ((rd_T37 l0 0).f2) x26_1).f3))) = w29 at n0_ n1_ nI_ ⊢
                                          replace IB := nI_
                                          clear nI_
                                          have BK214 := n0_
                                          have HB := n1_
                                          clear n0_ n1_
                                          have n0_ := Aside0.mk (blk_drew BK214.out)
                                          have n1_ := Aside0.mk (below_drew1 HB.out)
                                          clear BK214
                                          clear HB
                                          have BK214 := n0_
                                          have HB := n1_
                                          clear n0_ n1_
                                          replace IB := Aside0.mk (bf_drew IB.out)
                                          refine start_ (n := 22) (S := fun w' => w'.cell? ⟨gb214, 0, none⟩ = some (.int .i8 ((rd_T85 ((rd_T37 l0 0).f2) x26_1).f0.f0)) ∧ w'.cell? ⟨gb214, 1, none⟩ = some (.int .i8 ((rd_T85 ((rd_T37 l0 0).f2) x26_1).f0.f1)) ∧ w'.cell? ⟨gb214, 2, none⟩ = some (.int .i8 ((rd_T85 ((rd_T37 l0 0).f2) x26_1).f1)) ∧ w'.cell? ⟨gb214, 3, none⟩ = some (.int .i8 ((rd_T85 ((rd_T37 l0 0).f2) x26_1).f2)) ∧ w'.cell? ⟨gb214, 4, none⟩ = some (.int .i8 ((rd_T85 ((rd_T37 l0 0).f2) x26_1).f3))) (ds := []) #[false, false, false, false, false, false, false, false, false, false, false, false, false, false, false, false, false, false, false, false, false, false] (by kernel_rfl) rfl rfl ⟨(blk_cell BK214.out 0).trans rfl, (blk_cell BK214.out 1).trans rfl, (blk_cell BK214.out 2).trans rfl, (blk_cell BK214.out 3).trans rfl, (blk_cell BK214.out 4).trans rfl⟩ (fun hHeld => ?_); refine with_tabW impl_Board_text.tab6 impl_Board_text.bits6 (fun HT_ HW_ => ?_)
                                          generalize w29.drew = w30 at BK214 HB IB hHeld ⊢
                                          refine pure_ (i := 0) (N := some 30) (v := ?_) (a' := ?_) #[true, false, false, false, false, false, false, false, false, false, false, false, false, false, false, false, false, false, false, false, false, false] rfl rfl (any_of HT_.out (by kernel_rfl)) (fun _ _ _ h => h) (Or.inl ⟨by rfl, ?_⟩) ?_ ?_
                                          rotate_left
                                          · intro w'
                                            go_simp
                                            with_reducible rfl
                                          rotate_left
                                          · simp only [Act.put, List.setIfInBounds_toArray, List.set_cons_zero, List.set_cons_succ, i64_w, i32_w]
                                            rfl
                                          refine pure_ (i := 5) (N := some 35) (v := ?_) (a' := ?_) #[true, false, false, false, false, true, false, false, false, false, false, false, false, false, false, false, false, false, false, false, false, false] rfl rfl (any_of HT_.out (by kernel_rfl)) (fun _ _ _ h => h) (Or.inl ⟨by rfl, ?_⟩) ?_ ?_
                                          rotate_left
                                          · intro w'
                                            go_simp
                                            with_reducible rfl
                                          rotate_left
                                          · simp only [Act.put, List.setIfInBounds_toArray, List.set_cons_zero, List.set_cons_succ, i64_w, i32_w]
                                            rfl
                                          refine pure_ (i := 11) (N := some 41) (v := ?_) (a' := ?_) #[true, false, false, false, false, true, false, false, false, false, false, true, false, false, false, false, false, false, false, false, false, false] rfl rfl (any_of HT_.out (by kernel_rfl)) (fun _ _ _ h => h) (Or.inl ⟨by rfl, ?_⟩) ?_ ?_
                                          rotate_left
                                          · intro w'
                                            go_simp
                                            with_reducible rfl
                                          rotate_left
                                          · simp only [Act.put, List.setIfInBounds_toArray, List.set_cons_zero, List.set_cons_succ, i64_w, i32_w]
                                            rfl
                                          refine pure_ (i := 16) (N := some 46) (v := ?_) (a' := ?_) #[true, false, false, false, false, true, false, false, false, false, false, true, false, false, false, false, true, false, false, false, false, false] rfl rfl (any_of HT_.out (by kernel_rfl)) (fun _ _ _ h => h) (Or.inl ⟨by rfl, ?_⟩) ?_ ?_
                                          rotate_left
                                          · intro w'
                                            go_simp
                                            with_reducible rfl
                                          rotate_left
                                          · simp only [Act.put, List.setIfInBounds_toArray, List.set_cons_zero, List.set_cons_succ, i64_w, i32_w]
                                            rfl
                                          refine take_ (i := 1) (N := some 31) (v := ?_) (a' := ?_) #[true, true, false, false, false, true, false, false, false, false, false, true, false, false, false, false, true, false, false, false, false, false] rfl rfl (take_ofW HT_.out HW_.out (by kernel_rfl)) (fun _ _ _ h => h) (Or.inl ⟨by rfl, ?_⟩) hHeld ?_ ?_
                                          rotate_left
                                          · rintro w' ⟨s0, s1, s2, s3, s4⟩
                                            go_simp
                                            with_reducible rfl
                                          rotate_left
                                          · simp only [Act.put, List.setIfInBounds_toArray, List.set_cons_zero, List.set_cons_succ, i64_w, i32_w]
                                            rfl
                                          refine take_ (i := 6) (N := some 36) (v := ?_) (a' := ?_) #[true, true, false, false, false, true, true, false, false, false, false, true, false, false, false, false, true, false, false, false, false, false] rfl rfl (take_ofW HT_.out HW_.out (by kernel_rfl)) (fun _ _ _ h => h) (Or.inl ⟨by rfl, ?_⟩) hHeld ?_ ?_
                                          rotate_left
                                          · rintro w' ⟨s0, s1, s2, s3, s4⟩
                                            go_simp
                                            with_reducible rfl
                                          rotate_left
                                          · simp only [Act.put, List.setIfInBounds_toArray, List.set_cons_zero, List.set_cons_succ, i64_w, i32_w]
                                            rfl
                                          refine take_ (i := 12) (N := some 42) (v := ?_) (a' := ?_) #[true, true, false, false, false, true, true, false, false, false, false, true, true, false, false, false, true, false, false, false, false, false] rfl rfl (take_ofW HT_.out HW_.out (by kernel_rfl)) (fun _ _ _ h => h) (Or.inl ⟨by rfl, ?_⟩) hHeld ?_ ?_
                                          rotate_left
                                          · rintro w' ⟨s0, s1, s2, s3, s4⟩
                                            go_simp
                                            with_reducible rfl
                                          rotate_left
                                          · simp only [Act.put, List.setIfInBounds_toArray, List.set_cons_zero, List.set_cons_succ, i64_w, i32_w]
                                            rfl
                                          refine take_ (i := 17) (N := some 47) (v := ?_) (a' := ?_) #[true, true, false, false, false, true, true, false, false, false, false, true, true, false, false, false, true, true, false, false, false, false] rfl rfl (take_ofW HT_.out HW_.out (by kernel_rfl)) (fun _ _ _ h => h) (Or.inl ⟨by rfl, ?_⟩) hHeld ?_ ?_
                                          rotate_left
                                          · rintro w' ⟨s0, s1, s2, s3, s4⟩
                                            go_simp
                                            with_reducible rfl
                                          rotate_left
                                          · simp only [Act.put, List.setIfInBounds_toArray, List.set_cons_zero, List.set_cons_succ, i64_w, i32_w]
                                            rfl
                                          refine one_ (i := 2) (N := some 32) #[true, true, true, false, false, true, true, false, false, false, false, true, true, false, false, false, true, true, false, false, false, false] rfl rfl (one_of HT_.out (by kernel_rfl)) (by decide) (fun K hK => ?_)
                                          refine goes_ Tryd.func23 (by kernel_rfl) rfl #[.agg #[.int .i8 ((rd_T85 ((rd_T37 l0 0).f2) x26_1).f0.f0), .int .i8 ((rd_T85 ((rd_T37 l0 0).f2) x26_1).f0.f1)]] (by rfl) rfl rfl (by (try simp only [List.map_toArray, List.map_cons, List.map_nil]); first | done | rfl | (simp only [List.length_drop, List.length_take]; rfl)) ?_
                                          with_reducible refine (impl_Cell_text.calls ((rd_T85 ((rd_T37 l0 0).f2) x26_1).f0.f0) ((rd_T85 ((rd_T37 l0 0).f2) x26_1).f0.f1) t215 _ A13.out).mono ?_
                                          rintro e w31 ⟨rfl, hb⟩
                                          replace IB := Aside0.mk (bf_below (by repeat (first | (with_reducible exact IB.out) | apply bf_drewN | apply bf_drew)) hb)
                                          refine ⟨_, rfl, ?_⟩
                                          have n0_ := Aside0.mk (blk_below (g := gb214) (o := .cells #[.int .i8 ((rd_T85 ((rd_T37 l0 0).f2) x26_1).f0.f0), .int .i8 ((rd_T85 ((rd_T37 l0 0).f2) x26_1).f0.f1), .int .i8 ((rd_T85 ((rd_T37 l0 0).f2) x26_1).f1), .int .i8 ((rd_T85 ((rd_T37 l0 0).f2) x26_1).f2), .int .i8 ((rd_T85 ((rd_T37 l0 0).f2) x26_1).f3)] 85 (0, 0)) (by (with_reducible repeat (first | refine blk_drewN ?_ _ | refine blk_drew ?_ | refine blk_alloc ?_ _)); exact BK214.out) hb)
                                          have n1_ := Aside0.mk (below_step (by repeat (first | (with_reducible first | exact HB.out | apply below_alloc | apply pw_below_drewN | apply below_drew1 | refine below_set ?_ GE214.out) | exact HB.out)) hb)
                                          clear BK214
                                          clear HB
                                          have BK214 := n0_
                                          have HB := n1_
                                          clear n0_ n1_
                                          (try clear hb)
                                          (try clear hb2)
                                          (try clear hk)
                                          (try clear hi)
                                          refine hK.out _ _ ⟨(blk_cell BK214.out 0).trans rfl, (blk_cell BK214.out 1).trans rfl, (blk_cell BK214.out 2).trans rfl, (blk_cell BK214.out 3).trans rfl, (blk_cell BK214.out 4).trans rfl⟩ (fun hHeld => ?_)
                                          clear hK K
                                          refine norm_ (a' := ?_) ?_ ?_
                                          rotate_left
                                          · show Act.put _ (some 32) _ = _
                                            simp only [Act.put, List.setIfInBounds_toArray, List.set_cons_zero, List.set_cons_succ, i64_w, i32_w]
                                            rfl
                                          refine pure_ (i := 3) (N := some 33) (v := ?_) (a' := ?_) #[true, true, true, true, false, true, true, false, false, false, false, true, true, false, false, false, true, true, false, false, false, false] rfl rfl (any_of HT_.out (by kernel_rfl)) (fun _ _ _ h => h) (Or.inl ⟨by rfl, ?_⟩) ?_ ?_
                                          rotate_left
                                          · intro w'
                                            go_simp
                                            with_reducible rfl
                                          rotate_left
                                          · simp only [Act.put, List.setIfInBounds_toArray, List.set_cons_zero, List.set_cons_succ, i64_w, i32_w]
                                            rfl
                                          refine one_ (i := 4) (N := some 34) #[true, true, true, true, true, true, true, false, false, false, false, true, true, false, false, false, true, true, false, false, false, false] rfl rfl (one_of HT_.out (by kernel_rfl)) (by decide) (fun K hK => ?_)
                                          refine goes_ Tryd.func54 (by kernel_rfl) rfl #[] (by rfl) rfl rfl (by (try simp only [List.map_toArray, List.map_cons, List.map_nil]); first | done | rfl | (simp only [List.length_drop, List.length_take]; rfl)) ?_
                                          with_reducible refine (impl_kindNames.calls  t216 _ A15.out).mono ?_
                                          rintro e w32 ⟨v217, rfl, ho0, hb⟩
                                          replace IB := Aside0.mk (bf_below (by repeat (first | (with_reducible exact IB.out) | apply bf_drewN | apply bf_drew)) hb)
                                          refine ⟨_, rfl, ?_⟩
                                          have n0_ := Aside0.mk (Kd.R_lower ho0 (below_size (by repeat (first | (with_reducible first | exact HB.out | apply below_alloc | apply pw_below_drewN | apply below_drew1 | refine below_set ?_ GE214.out) | exact HB.out))))
                                          have n1_ := Aside0.mk (blk_below (g := gb214) (o := .cells #[.int .i8 ((rd_T85 ((rd_T37 l0 0).f2) x26_1).f0.f0), .int .i8 ((rd_T85 ((rd_T37 l0 0).f2) x26_1).f0.f1), .int .i8 ((rd_T85 ((rd_T37 l0 0).f2) x26_1).f1), .int .i8 ((rd_T85 ((rd_T37 l0 0).f2) x26_1).f2), .int .i8 ((rd_T85 ((rd_T37 l0 0).f2) x26_1).f3)] 85 (0, 0)) (by (with_reducible repeat (first | refine blk_drewN ?_ _ | refine blk_drew ?_ | refine blk_alloc ?_ _)); exact BK214.out) hb)
                                          have n2_ := Aside0.mk (below_step (by repeat (first | (with_reducible first | exact HB.out | apply below_alloc | apply pw_below_drewN | apply below_drew1 | refine below_set ?_ GE214.out) | exact HB.out)) hb)
                                          clear BK214
                                          clear HB
                                          have HO218 := n0_
                                          have BK214 := n1_
                                          have HB := n2_
                                          clear n0_ n1_ n2_
                                          (try clear hb)
                                          (try clear hb2)
                                          (try clear hk)
                                          (try clear hi)
                                          (try clear ho0)
                                          obtain ⟨Ao33, co33, eo33⟩ := Kd.R_slice HO218.out
                                          (first | subst eo33 | (injection eo33 with f1_ f2_ f3_; have f4_ := f1_.symm; have f5_ := f3_.symm; clear f1_ f2_ f3_; subst f4_; subst f5_))
                                          have p219 : 0 ≤ (((rd_T85 ((rd_T37 l0 0).f2) x26_1).f1) : Int) := of_decide_eq_true (by first | (with_reducible assumption) | assumption)
                                          have q219 : ((rd_T85 ((rd_T37 l0 0).f2) x26_1).f1) < (t216.length : Int) := of_decide_eq_true (by first | (with_reducible assumption) | assumption)
                                          obtain ⟨ad219, e219, hx219_0⟩ := Kd.at_string (Kd.R_reads' HO218.out).2.2 ((rd_T85 ((rd_T37 l0 0).f2) x26_1).f1) p219 q219
                                          cases e219
                                          obtain ⟨ocs_, how_, _⟩ := HO218.out.2
                                          obtain ⟨rcs_, hrow0_⟩ := own_typed how_ ad219.block rfl
                                          have hrow_ := Aside0.mk hrow0_
                                          clear hrow0_ how_
                                          replace p219 := eq_true p219
                                          replace q219 := eq_true q219
                                          refine hK.out _ _ ⟨(blk_cell BK214.out 0).trans rfl, (blk_cell BK214.out 1).trans rfl, (blk_cell BK214.out 2).trans rfl, (blk_cell BK214.out 3).trans rfl, (blk_cell BK214.out 4).trans rfl⟩ (fun hHeld => ?_)
                                          clear hHeld
                                          refine more_ (S' := fun w' => w'.cell? ⟨gb214, 0, none⟩ = some (.int .i8 ((rd_T85 ((rd_T37 l0 0).f2) x26_1).f0.f0)) ∧ w'.cell? ⟨gb214, 1, none⟩ = some (.int .i8 ((rd_T85 ((rd_T37 l0 0).f2) x26_1).f0.f1)) ∧ w'.cell? ⟨gb214, 2, none⟩ = some (.int .i8 ((rd_T85 ((rd_T37 l0 0).f2) x26_1).f1)) ∧ w'.cell? ⟨gb214, 3, none⟩ = some (.int .i8 ((rd_T85 ((rd_T37 l0 0).f2) x26_1).f2)) ∧ w'.cell? ⟨gb214, 4, none⟩ = some (.int .i8 ((rd_T85 ((rd_T37 l0 0).f2) x26_1).f3)) ∧ w'.cell? (ad219.add (((rd_T85 ((rd_T37 l0 0).f2) x26_1).f1)).toNat) = some (.string (rdOf ByteArray.empty t216 ((rd_T85 ((rd_T37 l0 0).f2) x26_1).f1)))) (fun w' ⟨s0, s1, s2, s3, s4, s5⟩ => ⟨s0, s1, s2, s3, s4⟩) ⟨(blk_cell BK214.out 0).trans rfl, (blk_cell BK214.out 1).trans rfl, (blk_cell BK214.out 2).trans rfl, (blk_cell BK214.out 3).trans rfl, (blk_cell BK214.out 4).trans rfl, hx219_0⟩ (fun hHeld => ?_)
                                          clear hK K
                                          refine norm_ (a' := ?_) ?_ ?_
                                          rotate_left
                                          · show Act.put _ (some 34) _ = _
                                            simp only [Act.put, List.setIfInBounds_toArray, List.set_cons_zero, List.set_cons_succ, i64_w, i32_w]
                                            rfl
                                          refine pure_ (i := 7) (N := some 37) (v := ?_) (a' := ?_) #[true, true, true, true, true, true, true, true, false, false, false, true, true, false, false, false, true, true, false, false, false, false] rfl rfl (any_of HT_.out (by kernel_rfl)) (fun _ _ _ h => h) (Or.inl ⟨by rfl, ?_⟩) ?_ ?_
                                          rotate_left
                                          · intro w'
                                            go_simp
                                            with_reducible rfl
                                          rotate_left
                                          · simp only [Act.put, List.setIfInBounds_toArray, List.set_cons_zero, List.set_cons_succ, i64_w, i32_w]
                                            rfl
                                          refine take_ (i := 8) (N := some 38) (v := ?_) (a' := ?_) #[true, true, true, true, true, true, true, true, true, false, false, true, true, false, false, false, true, true, false, false, false, false] rfl rfl (take_ofW HT_.out HW_.out (by kernel_rfl)) (fun _ _ _ h => h) (Or.inl ⟨by rfl, ?_⟩) hHeld ?_ ?_
                                          rotate_left
                                          · rintro w' ⟨s0, s1, s2, s3, s4, s5⟩
                                            go_simp
                                            with_reducible rfl
                                          rotate_left
                                          · simp only [Act.put, List.setIfInBounds_toArray, List.set_cons_zero, List.set_cons_succ, i64_w, i32_w]
                                            rfl
                                          refine pure_ (i := 9) (N := some 39) (v := ?_) (a' := ?_) #[true, true, true, true, true, true, true, true, true, true, false, true, true, false, false, false, true, true, false, false, false, false] rfl rfl (any_of HT_.out (by kernel_rfl)) (fun _ _ _ h => h) (Or.inl ⟨by rfl, ?_⟩) ?_ ?_
                                          rotate_left
                                          · intro w'
                                            go_simp
                                            with_reducible rfl
                                          rotate_left
                                          · simp only [Act.put, List.setIfInBounds_toArray, List.set_cons_zero, List.set_cons_succ, i64_w, i32_w]
                                            rfl
                                          refine pure_ (i := 10) (N := some 40) (v := ?_) (a' := ?_) #[true, true, true, true, true, true, true, true, true, true, true, true, true, false, false, false, true, true, false, false, false, false] rfl rfl (any_of HT_.out (by kernel_rfl)) (fun _ _ _ h => h) (Or.inl ⟨by rfl, ?_⟩) ?_ ?_
                                          rotate_left
                                          · intro w'
                                            go_simp
                                            with_reducible rfl
                                          rotate_left
                                          · simp only [Act.put, List.setIfInBounds_toArray, List.set_cons_zero, List.set_cons_succ, i64_w, i32_w]
                                            rfl
                                          refine one_ (i := 13) (N := some 43) #[true, true, true, true, true, true, true, true, true, true, true, true, true, true, false, false, true, true, false, false, false, false] rfl rfl (one_of HT_.out (by kernel_rfl)) (by decide) (fun K hK => ?_)
                                          refine goes_ Tryd.func43 (by kernel_rfl) rfl #[.int .i8 ((rd_T85 ((rd_T37 l0 0).f2) x26_1).f2)] (by rfl) rfl rfl (by (try simp only [List.map_toArray, List.map_cons, List.map_nil]); first | done | rfl | (simp only [List.length_drop, List.length_take]; rfl)) ?_
                                          with_reducible refine (impl_decimal_int8.calls ((rd_T85 ((rd_T37 l0 0).f2) x26_1).f2) t220 _ A20.out).mono ?_
                                          rintro e w' ⟨rfl, ⟨nd, rfl⟩⟩
                                          refine ⟨_, rfl, ?_⟩
                                          refine hK.out _ _ ⟨(blk_cell BK214.out 0).trans rfl, (blk_cell BK214.out 1).trans rfl, (blk_cell BK214.out 2).trans rfl, (blk_cell BK214.out 3).trans rfl, (blk_cell BK214.out 4).trans rfl, hHeld.2.2.2.2.2⟩ (fun hHeld => ?_)
                                          clear hK K
                                          refine norm_ (a' := ?_) ?_ ?_
                                          rotate_left
                                          · show Act.put _ (some 43) _ = _
                                            simp only [Act.put, List.setIfInBounds_toArray, List.set_cons_zero, List.set_cons_succ, i64_w, i32_w]
                                            rfl
                                          refine pure_ (i := 14) (N := some 44) (v := ?_) (a' := ?_) #[true, true, true, true, true, true, true, true, true, true, true, true, true, true, true, false, true, true, false, false, false, false] rfl rfl (any_of HT_.out (by kernel_rfl)) (fun _ _ _ h => h) (Or.inl ⟨by rfl, ?_⟩) ?_ ?_
                                          rotate_left
                                          · intro w'
                                            go_simp
                                            with_reducible rfl
                                          rotate_left
                                          · simp only [Act.put, List.setIfInBounds_toArray, List.set_cons_zero, List.set_cons_succ, i64_w, i32_w]
                                            rfl
                                          refine pure_ (i := 15) (N := some 45) (v := ?_) (a' := ?_) #[true, true, true, true, true, true, true, true, true, true, true, true, true, true, true, true, true, true, false, false, false, false] rfl rfl (any_of HT_.out (by kernel_rfl)) (fun _ _ _ h => h) (Or.inl ⟨by rfl, ?_⟩) ?_ ?_
                                          rotate_left
                                          · intro w'
                                            go_simp
                                            with_reducible rfl
                                          rotate_left
                                          · simp only [Act.put, List.setIfInBounds_toArray, List.set_cons_zero, List.set_cons_succ, i64_w, i32_w]
                                            rfl
                                          refine one_ (i := 18) (N := some 48) #[true, true, true, true, true, true, true, true, true, true, true, true, true, true, true, true, true, true, true, false, false, false] rfl rfl (one_of HT_.out (by kernel_rfl)) (by decide) (fun K hK => ?_)
                                          refine goes_ Tryd.func43 (by kernel_rfl) rfl #[.int .i8 ((rd_T85 ((rd_T37 l0 0).f2) x26_1).f3)] (by rfl) rfl rfl (by (try simp only [List.map_toArray, List.map_cons, List.map_nil]); first | done | rfl | (simp only [List.length_drop, List.length_take]; rfl)) ?_
                                          with_reducible refine (impl_decimal_int8.calls ((rd_T85 ((rd_T37 l0 0).f2) x26_1).f3) t221 _ A23.out).mono ?_
                                          rintro e w' ⟨rfl, ⟨nd, rfl⟩⟩
                                          refine ⟨_, rfl, ?_⟩
                                          refine hK.out _ _ ⟨(blk_cell BK214.out 0).trans rfl, (blk_cell BK214.out 1).trans rfl, (blk_cell BK214.out 2).trans rfl, (blk_cell BK214.out 3).trans rfl, (blk_cell BK214.out 4).trans rfl, hHeld.2.2.2.2.2⟩ (fun hHeld => ?_)
                                          clear hK K
                                          refine norm_ (a' := ?_) ?_ ?_
                                          rotate_left
                                          · show Act.put _ (some 48) _ = _
                                            simp only [Act.put, List.setIfInBounds_toArray, List.set_cons_zero, List.set_cons_succ, i64_w, i32_w]
                                            rfl
                                          refine pure_ (i := 19) (N := some 49) (v := ?_) (a' := ?_) #[true, true, true, true, true, true, true, true, true, true, true, true, true, true, true, true, true, true, true, true, false, false] rfl rfl (any_of HT_.out (by kernel_rfl)) (fun _ _ _ h => h) (Or.inl ⟨by rfl, ?_⟩) ?_ ?_
                                          rotate_left
                                          · intro w'
                                            go_simp
                                            with_reducible rfl
                                          rotate_left
                                          · simp only [Act.put, List.setIfInBounds_toArray, List.set_cons_zero, List.set_cons_succ, i64_w, i32_w]
                                            rfl
                                          refine pure_ (i := 20) (N := some 50) (v := ?_) (a' := ?_) #[true, true, true, true, true, true, true, true, true, true, true, true, true, true, true, true, true, true, true, true, true, false] rfl rfl (any_of HT_.out (by kernel_rfl)) (fun _ _ _ h => h) (Or.inl ⟨by rfl, ?_⟩) ?_ ?_
                                          rotate_left
                                          · intro w'
                                            go_simp
                                            with_reducible rfl
                                          rotate_left
                                          · simp only [Act.put, List.setIfInBounds_toArray, List.set_cons_zero, List.set_cons_succ, i64_w, i32_w]
                                            rfl
                                          refine one_ (i := 21) (N := some 51) #[true, true, true, true, true, true, true, true, true, true, true, true, true, true, true, true, true, true, true, true, true, true] rfl rfl (one_of HT_.out (by kernel_rfl)) (by decide) (fun K hK => ?_)
                                          refine goes_ Tryd.func22 (by kernel_rfl) rfl #[.pointer (some ⟨gbo, 0, none⟩), .string (((((((t215 ++ (⟨#[32]⟩ : ByteArray)) ++ (rdOf ByteArray.empty t216 ((rd_T85 ((rd_T37 l0 0).f2) x26_1).f1))) ++ (⟨#[32]⟩ : ByteArray)) ++ t220) ++ (⟨#[32]⟩ : ByteArray)) ++ t221) ++ (⟨#[10]⟩ : ByteArray))] (by rfl) rfl rfl (by (try simp only [List.map_toArray, List.map_cons, List.map_nil]); first | done | rfl | (simp only [List.length_drop, List.length_take]; rfl)) ?_
                                          refine (builder_write w.heap.size gbo x3_1 (((((((t215 ++ (⟨#[32]⟩ : ByteArray)) ++ (rdOf ByteArray.empty t216 ((rd_T85 ((rd_T37 l0 0).f2) x26_1).f1))) ++ (⟨#[32]⟩ : ByteArray)) ++ t220) ++ (⟨#[32]⟩ : ByteArray)) ++ t221) ++ (⟨#[10]⟩ : ByteArray)) _ (by repeat (first | (with_reducible exact IB.out) | apply bf_drewN | apply bf_drew)) (by have q_ := c26; simp only [ByteArray.size_append]; have l0_ : (⟨#[10]⟩ : ByteArray).size = 1 := rfl; have l1_ : (⟨#[32]⟩ : ByteArray).size = 1 := rfl; omega) (below_size (by repeat (first | (with_reducible first | exact HB.out | apply below_alloc | apply pw_below_drewN | apply below_drew1) | exact HB.out)))).mono ?_
                                          rintro e w40 ⟨rfl, hb1, hbel, hoth⟩
                                          have HS5_ := oth_cell hoth (by repeat (first | (with_reducible exact IB.out) | apply bf_drewN | apply bf_drew)) (cs := rcs_) (t := 9) (fz := (0, 0)) (by (with_reducible repeat (first | refine blk_drewN ?_ _ | refine blk_drew ?_ | refine blk_alloc ?_ _)); exact hrow_.out) (by decide) (by decide) (hHeld.2.2.2.2.2) (add_block _ _)
                                          have n2_ := Aside0.mk (oth_keep hoth (by repeat (first | (with_reducible exact IB.out) | apply bf_drewN | apply bf_drew)) (by (with_reducible repeat (first | refine blk_drewN ?_ _ | refine blk_drew ?_ | refine blk_alloc ?_ _)); exact BK214.out) (by decide) (by decide))
                                          have n0_ := Aside0.mk (Below.trans (by repeat (first | (with_reducible first | exact HB.out | apply below_alloc | apply pw_below_drewN | apply below_drew1) | exact HB.out)) hbel)
                                          have n1_ := Aside0.mk hb1
                                          clear HB IB BK214
                                          have HB := n0_
                                          have IB := n1_
                                          have BK214 := n2_
                                          clear n2_
                                          clear n0_ n1_ hb1 hbel hoth
                                          refine ⟨_, rfl, ?_⟩
                                          refine hK.out _ _ ⟨(blk_cell BK214.out 0).trans rfl, (blk_cell BK214.out 1).trans rfl, (blk_cell BK214.out 2).trans rfl, (blk_cell BK214.out 3).trans rfl, (blk_cell BK214.out 4).trans rfl, HS5_⟩ (fun hHeld => ?_)
                                          clear hK K
                                          refine norm_ (a' := ?_) ?_ ?_
                                          rotate_left
                                          · show Act.put _ (some 51) _ = _
                                            simp only [Act.put, List.setIfInBounds_toArray, List.set_cons_zero, List.set_cons_succ, i64_w, i32_w]
                                            rfl
                                          refine done_ (done_of HT_.out (by kernel_rfl)) ?_
                                          try go_wp2
                                          go_roundg k1
                                          case measure => have := HK1.out; omega
                                          case rel => exact ⟨(x3_1 ++ (((((((t215 ++ (⟨#[32]⟩ : ByteArray)) ++ (rdOf ByteArray.empty t216 ((rd_T85 ((rd_T37 l0 0).f2) x26_1).f1))) ++ (⟨#[32]⟩ : ByteArray)) ++ t220) ++ (⟨#[32]⟩ : ByteArray)) ++ t221) ++ (⟨#[10]⟩ : ByteArray))), (wrap64 (x26_1 + 1)), (by first | rfl | (simp; done) | (simp [*]; done) | (exact congrArg (Value.int .i64) (wrap_eq (by omega)))), H', ⟨by have := HK1.out; omega⟩, ⟨by repeat (first | (with_reducible first | exact HB.out | apply below_alloc | apply pw_below_drewN | apply below_drew1 | refine below_set ?_ GE214.out) | exact HB.out)⟩, ⟨(by repeat (first | (with_reducible exact IB.out) | apply bf_drewN | apply bf_drew))⟩⟩
                                        · rw [if_neg c26] at H
                                          exact absurd H (by simp)
                                      · rw [if_neg c25] at H
                                        exact absurd H (by simp)
                                    · rw [if_neg c24] at H
                                      exact absurd H (by simp)
                                  · rw [if_neg c22] at H
                                    exact absurd H (by simp)
                                · rw [if_neg c21] at H
                                  exact absurd H (by simp)
                              · rw [if_neg c19] at H
                                exact absurd H (by simp)
                            · rw [if_neg c18] at H
                              exact absurd H (by simp)
                          · rw [if_neg c17] at H
                            exact absurd H (by simp)
                        · rw [if_neg c16] at H
                          exact absurd H (by simp)
                      · rw [if_neg c14] at H
                        exact absurd H (by simp)
                    · rw [if_neg c12] at H
                      exact absurd H (by simp)
                  · rw [if_neg c11] at H
                    exact absurd H (by simp)
                · rw [if_neg c10] at H
                  have c10b0 : decide (x26_1 < (((rd_T37 l0 0).f2).length : Int)) = false := decide_eq_false c10
                  clear c10
                  have hr_ := Option.some.inj H
                  go_wp2_with (first | (go_at_call 26; refine (builder_string w.heap.size gbo x3_1 _ (by repeat (first | (with_reducible exact IB.out) | apply bf_drewN | apply bf_drew)) (below_size (by repeat (first | (with_reducible first | exact HB.out | apply below_alloc | apply pw_below_drewN | apply below_drew1) | exact HB.out)))).mono ?_; rintro e w41 ⟨rfl, hbel⟩; have n0_ := Aside0.mk (Below.trans (by repeat (first | (with_reducible first | exact HB.out | apply below_alloc | apply pw_below_drewN | apply below_drew1) | exact HB.out)) hbel); clear HB; have HB := n0_; clear n0_ hbel))
                  go_ret
                  exact ⟨by first | rfl | (rw [hr_]) | (simp; done) | (simp [hr_]; done), by repeat (first | (with_reducible first | exact HB.out | apply below_alloc | apply pw_below_drewN | apply below_drew1) | exact HB.out)⟩
          · rw [if_neg c8] at H
            exact absurd H (by simp)
        · rw [if_neg c7] at H
          exact absurd H (by simp)
      · rw [if_neg c6] at H
        exact absurd H (by simp)
    · rw [if_neg c4] at H
      exact absurd H (by simp)
  · rw [if_neg c2] at H
    exact absurd H (by simp)

end Go.Proofs.YtnbjijkpenlpbaaDoor.PFnExactBoardText
