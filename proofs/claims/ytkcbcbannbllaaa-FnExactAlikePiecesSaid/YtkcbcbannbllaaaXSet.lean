/- A map whose keys are cells (two small numbers), as the list of its entries: made, asked and written by one call. No condition beside what each names. -/
import Derived.Maps.OwnOps
import Derived.DeepKeys4
import Derived.Deep.WholeRow
import Derived.Test.YtkcbcbannbllaaaXArr
namespace Go.Proofs.YtkcbcbannbllaaaX
open Go.RowKit Go.Proofs.YtkcbcbannbllaaaW.PrintWords
section
variable {P : Program} {w : World} {T K I V : TypeId} {b : Nat} {α : Type}
def ckey (x y : Int) : Value := .agg #[.int .i8 x, .int .i8 y]
/-- The entries of a map, as they stand: key and element of each. -/
def ER (vv : α → Value) (es : Array MapEntry) (m : List ((Int × Int) × α)) : Prop := es.toList.map (fun e => (e.key, e.val)) = m.map (fun p => (ckey p.1.1 p.1.2, vv p.2))
theorem ER_nil (vv : α → Value) : ER vv #[] [] := rfl
theorem ER_push {vv : α → Value} {es : Array MapEntry} {m : List ((Int × Int) × α)} (h : ER vv es m) (x y : Int) (v : α) (c : Nat) : ER vv (es.push ⟨ckey x y, vv v, c⟩) (m ++ [((x, y), v)]) := by
  unfold ER at *
  rw [Array.toList_push, List.map_append, List.map_append, h]
  rfl
structure CellKey (P : Program) (K I : TypeId) : Prop where
  arr : P.underlying K = some (.array 2 I)
  int : P.underlying I = some (.int .i8)
  one : P.cellsOf I = 1
theorem run_ckey_eq (h : CellKey P K I) (x y x' y' : Int) : (Op.equal K (ckey x y) (ckey x' y')).run P w = .ok (x == x' && y == y') w := by
  obtain ⟨hu, hi, hc⟩ := h
  have hp : P.plainKey I = true := by simp [Program.plainKey, hi]
  obtain ⟨i, hinfo⟩ := info_of_underlying hi
  have he : ∀ a b : Int, (Op.equalIn 9999 I (.int .i8 a) (.int .i8 b)).run P w = .ok (a == b) w := by
    intro a b
    rw [show (9999 : Nat) = 9998 + 1 from rfl, Op.equalIn]
    simp [run_underlying hi, Result.andThen]
  show (Op.equalIn (9999 + 1) K _ _).run P w = _
  refine arrA_of (c := 1) hu (by rw [hinfo]; rfl) hc ?_
  show (Op.eqItems 9999 I 1 _ _ [0, 1]).run P w = _
  refine eqi_cons (run_part_plain w hp rfl) (run_part_plain w hp rfl) (he _ _) ?_
  exact eqi_last (run_part_plain w hp rfl) (run_part_plain w hp rfl) (he _ _)
theorem run_ckey_check (h : CellKey P K I) (em : Bool) (x y : Int) : (Instr.checkKey em 10000 K (ckey x y)).run P w = .ok () w := by
  obtain ⟨hu, hi, hc⟩ := h
  have hp : P.plainKey I = true := by simp [Program.plainKey, hi]
  obtain ⟨i, hinfo⟩ := info_of_underlying hi
  have hk : ∀ a : Int, (Instr.checkKey em 9999 I (.int .i8 a)).run P w = .ok () w := by
    intro a
    rw [show (9999 : Nat) = 9998 + 1 from rfl, Instr.checkKey]
    simp [run_underlying hi, Result.andThen]
  show (Instr.checkKey em (9999 + 1) K (.agg #[.int .i8 x, .int .i8 y])).run P w = _
  rw [Instr.checkKey]
  simp only [Sem.run_bind, run_underlying hu, Result.andThen_ok]
  simp only [Std.Legacy.Range.forIn_eq_forIn_range', Std.Legacy.Range.size, Nat.sub_zero, Nat.add_one_sub_one, Nat.div_one]
  rw [show List.range' 0 2 = [0, 1] from rfl]
  have p0 : (part I #[Value.int .i8 x, Value.int .i8 y] (0 * 1)).run P w = .ok (.int .i8 x) w := run_part_plain w hp rfl
  have p1 : (part I #[Value.int .i8 x, Value.int .i8 y] (1 * 1)).run P w = .ok (.int .i8 y) w := run_part_plain w hp rfl
  simp only [List.forIn_cons, List.forIn_nil, Sem.run_bind, run_sizeOf w hinfo, hc, Result.andThen_ok, p0, p1, hk, Sem.run_pure]
/-- What a look-up finds. -/
def mfind (m : List ((Int × Int) × α)) (x y : Int) : Option α := (m.find? fun p => x == p.1.1 && y == p.1.2).map (·.2)
theorem run_mfind (h : CellKey P K I) {vv : α → Value} (x y : Int) : ∀ (es : List MapEntry) (m : List ((Int × Int) × α)) (i : Nat), es.map (fun e => (e.key, e.val)) = m.map (fun p => (ckey p.1.1 p.1.2, vv p.2)) →
    ∃ j, (Instr.findAsking K (ckey x y) es i).run P w = .ok ((mfind m x y).map fun v => (j, vv v)) w
  | [], [], i, _ => ⟨0, by simp [Instr.findAsking, mfind]⟩
  | [], _ :: _, _, he => by simp at he
  | _ :: _, [], _, he => by simp at he
  | e :: es, p :: m, i, he => by
    simp only [List.map_cons, List.cons.injEq, Prod.mk.injEq] at he
    obtain ⟨⟨h1, h2⟩, h3⟩ := he
    have hq := run_ckey_eq (w := w) h x y p.1.1 p.1.2
    rw [← h1] at hq
    cases hc : (x == p.1.1 && y == p.1.2) with
    | true =>
      refine ⟨i, ?_⟩
      rw [hc] at hq
      simp [Instr.findAsking, hq, Result.andThen, mfind, hc, h2]
    | false =>
      obtain ⟨j, hj⟩ := run_mfind h x y es m (i + 1) h3
      refine ⟨j, ?_⟩
      rw [hc] at hq
      simp only [Instr.findAsking, Sem.run_bind, hq, Result.andThen_ok, Bool.false_eq_true, if_false]
      rw [hj]
      simp [mfind, hc]
theorem run_mfindKey (h : CellKey P K I) {vv : α → Value} {es : Array MapEntry} {m : List ((Int × Int) × α)} (hE : ER vv es m) (x y : Int) : ∃ j, (Instr.findKey K (ckey x y) es.toList).run P w = .ok ((mfind m x y).map fun v => (j, vv v)) w := by
  obtain ⟨j, hj⟩ := run_mfind (w := w) h x y es.toList m 0 hE
  exact ⟨j, by rw [run_findKey_eq w (by simp [h.arr])]; exact hj⟩
theorem run_mlook (h : CellKey P K I) (ht : P.underlying T = some (.map K V)) {z : Value} (hz : (zeroValue V).run P w = .ok z w) {vv : α → Value} {es : Array MapEntry} {clock : Nat} {m : List ((Int × Int) × α)} (hb : w.heap[b]? = some (.map es clock)) (hE : ER vv es m) (x y : Int) (ok : Bool) :
    (Instr.lookup T (.map (some b)) (ckey x y) ok).run P w = .ok (if ok then .tuple #[((mfind m x y).map vv).getD z, .bool (mfind m x y).isSome] else ((mfind m x y).map vv).getD z) w := by
  obtain ⟨j, hj⟩ := run_mfindKey (w := w) h hE x y
  cases hm : mfind m x y with
  | none => rw [hm] at hj; simp [Instr.lookup, run_underlying ht, MapKept.run_getObj_map hb, run_ckey_check h, hj, hz, Result.andThen]
  | some v => rw [hm] at hj; simp [Instr.lookup, run_underlying ht, MapKept.run_getObj_map hb, run_ckey_check h, hj, Result.andThen]
theorem run_mput (h : CellKey P K I) (ht : P.underlying T = some (.map K V)) {vv : α → Value} {es : Array MapEntry} {clock : Nat} {m : List ((Int × Int) × α)} (hb : w.heap[b]? = some (.map es clock)) (hE : ER vv es m) (x y : Int) (hno : mfind m x y = none) (v : α) :
    (Instr.mapUpdate T (.map (some b)) (ckey x y) (vv v)).run P w = .ok () (ChangeMaps.setBlock w b (.map (es.push ⟨ckey x y, vv v, clock⟩) (clock + 1))) := by
  obtain ⟨j, hj⟩ := run_mfindKey (w := w) h hE x y
  rw [hno] at hj
  simp [Instr.mapUpdate, run_underlying ht, MapKept.run_getObj_map hb, run_ckey_check h, hj, MapKept.run_setObj_map _ hb, Result.andThen, ChangeMaps.setBlock]
theorem mblk_far {w : World} {g : Nat} {o : Obj} (h : w.heap[g]? = some o) {p : Addr} (hp : g ≠ p.block) (u : Value) : (w.setCell p u).heap[g]? = some o := (Below.heap_setCell w p u g hp).trans h
section
variable {ops : Array Oper} {rest : List Oper} {o : Oper} {a : Act} {Q : Exit → Act → World → Prop}
theorem map_event {W : World} (hgd : o.guard = none) (t : TypeId) (hop : o.op = Op.makeMap t none)
    (h : ∀ g, g = W.heap.size → ∀ w1, w1.heap[g]? = some (.map #[] 0) → Below W.heap.size W w1 → wpList P ops Q rest (a.put o.dst (.map (some g))) w1) : wpList P ops Q (o :: rest) a W := by
  refine wpList_plain hgd fun K' hK' => ?_
  unfold Oper.wp
  simp [execOp, hop, Instr.makeMap, newObj, Result.andThen]
  exact hK' _ _ (h _ rfl _ (blk_new W _) (below_alloc (Below.refl _ _) _))
theorem look_event {W : World} (hgd : o.guard = none) {m x : Operand} {ok : Bool} (hop : o.op = Op.lookup T m x ok) (hm : a.eval m = .map (some b)) {key v : Value} (hx : a.eval x = key) (hrun : (Instr.lookup T (.map (some b)) key ok).run P W = .ok v W) (h : wpList P ops Q rest (a.put o.dst v) W) : wpList P ops Q (o :: rest) a W := by
  refine wpList_plain hgd fun K' hK' => ?_
  unfold Oper.wp
  simp [execOp, hop, hm, hx, hrun, Result.andThen]
  exact hK' _ _ h
theorem store_event {W0 : World} (hgd : o.guard = none) {t : TypeId} {x v : Operand} (hop : o.op = Op.store t x v) (hx : a.eval x = .pointer (some ⟨W0.heap.size, 0, none⟩)) {c c' : Array Value} (hv : a.eval v = .agg c') (hi : (P.info? t).map (·.size) = some c'.size) (ho : c.size = c'.size) (h1 : c'.all (·.oneCell') = true)
    (h : wpList P ops Q rest (a.put o.dst undef) (W0.alloc (.cells c' t))) : wpList P ops Q (o :: rest) a (W0.alloc (.cells c t)) := by
  have hrun := run_storeAt_new (P := P) W0 t c c' hi ho h1
  refine wpList_plain hgd fun K' hK' => ?_
  unfold Oper.wp
  simp [execOp, hop, hx, hv, hrun, Result.andThen]
  exact hK' _ _ h
theorem put_event {W : World} (hgd : o.guard = none) {m x v : Operand} (hop : o.op = Op.mapUpdate T m x v) (hm : a.eval m = .map (some b)) {key val : Value} (hx : a.eval x = key) (hv : a.eval v = val) {ob : Obj} (hrun : (Instr.mapUpdate T (.map (some b)) key val).run P W = .ok () (ChangeMaps.setBlock W b ob)) {es : Array MapEntry} {clock : Nat} (hb : W.heap[b]? = some (.map es clock))
    (h : ∀ w1, w1.heap[b]? = some ob → (∀ i, i ≠ b → w1.heap[i]? = W.heap[i]?) → (∀ w0 : World, Below w0.heap.size w0 W → w0.heap.size ≤ b → Below w0.heap.size w0 w1) → wpList P ops Q rest (a.put o.dst undef) w1) : wpList P ops Q (o :: rest) a W := by
  refine wpList_plain hgd fun K' hK' => ?_
  unfold Oper.wp
  simp [execOp, hop, hm, hx, hv, hrun, Result.andThen]
  refine hK' _ _ (h _ (ChangeMaps.heap_setBlock_same hb _) (fun i hi => ChangeMaps.heap_setBlock_other hb _ hi) fun w0 HB hle => ?_)
  exact pw_below_grown HB (some b) (below_size HB) ⟨rfl, rfl, rfl, by simp [ChangeMaps.setBlock], fun i _ hi => ChangeMaps.heap_setBlock_other hb _ (fun e => hi (by rw [e]))⟩ (fun k hk => by cases hk; exact hle)
end
end
section
variable {α β γ : Type} {d1 : Kd β} {d2 : Kd γ} {f : α → β × γ} {W : World}
/-- The first field of what a pointer leads to, as what a pointer leads to. -/
theorem ro_first {d : Kd α} (hd : d = Kd.iso (Kd.pair d1 d2) f) (z : α) {l : List α} {ad : Addr} {x' : β} (h : d.C W (some ad) l.length l) (h0 : 0 < l.length) (hx : (f (l.getD 0 z)).1 = x') : d1.C W (some ad) [x'].length [x'] := by
  subst hd
  subst hx
  obtain ⟨ad', c, e, hl, hk, hc⟩ := Kd.C_get h z 0 (Int.le_refl 0) (by omega)
  cases e
  obtain ⟨c1, c2, rfl, k1, _⟩ := hk
  refine ⟨rfl, by simp, fun _ => ⟨_, rfl, fun j p hj => ?_⟩⟩
  obtain ⟨rfl, rfl⟩ : j = 0 ∧ p = (f (l.getD 0 z)).1 := by
    cases j with
    | zero => exact ⟨rfl, (Option.some.inj hj).symm⟩
    | succ j => simp at hj
  refine ⟨c1, d1.K_len k1, k1, fun i u hu => ?_⟩
  have hi : i < c1.length := (List.getElem?_eq_some_iff.1 hu).1
  have := hc i u (by rw [List.getElem?_append_left hi]; exact hu)
  simpa using this
end
end Go.Proofs.YtkcbcbannbllaaaX
