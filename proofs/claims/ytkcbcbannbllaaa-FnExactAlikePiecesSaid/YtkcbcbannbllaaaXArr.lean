/- Small laws on arrays: an element of an array's value, '==' of two arrays. No condition beside what each names. -/
import Derived.ChangeKeysEq
import Derived.WalkKit
import Derived.Laws.Entries
import Derived.Test.YtkcbcbannbllaaaWWords
namespace Go.Proofs.YtkcbcbannbllaaaX
open Go.RowKit Go.Proofs.YtkcbcbannbllaaaW.PrintWords
section
variable {P : Program} {d : Nat} {xs ys : Array Value} {a b : Value} {r s : Bool} {w : World} {e : TypeId} {c i : Nat} {is : List Nat}
theorem eqi_cons (ha : (part e xs (i * c)).run P w = .ok a w) (hb : (part e ys (i * c)).run P w = .ok b w) (he : (Op.equalIn d e a b).run P w = .ok r w) (hr : (Op.eqItems d e c xs ys is).run P w = .ok s w) : (Op.eqItems d e c xs ys (i :: is)).run P w = .ok (r && s) w := by
  simp only [Op.eqItems, Sem.run_bind, ha, hb, he, Result.andThen_ok]
  cases r
  · simp
  · simpa using hr
theorem eqi_last (ha : (part e xs (i * c)).run P w = .ok a w) (hb : (part e ys (i * c)).run P w = .ok b w) (he : (Op.equalIn d e a b).run P w = .ok r w) : (Op.eqItems d e c xs ys [i]).run P w = .ok r w := by
  have h := eqi_cons (is := []) (s := true) ha hb he (by simp [Op.eqItems])
  rwa [Bool.and_true] at h
theorem arrA_of {t : TypeId} {n : Nat} (hu : P.underlying t = some (.array n e)) (hi : (P.info? e).isSome = true) (hc : P.cellsOf e = c) (h : (Op.eqItems d e c xs ys (List.range n)).run P w = .ok r w) : (Op.equalIn (d + 1) t (.agg xs) (.agg ys)).run P w = .ok r w := by
  obtain ⟨j, hj⟩ := Option.isSome_iff_exists.mp hi
  rw [run_equalIn_array w d xs ys hu hj, hc]
  exact h
@[go_sem] theorem run_index_arr (t : TypeId) (cs : Array Value) (k : IntKind) (j : Int) (h : P.underlying t = some (.array (P.arrayLen t) (P.elem t))) :
    (Instr.index t (.agg cs) (.int k j)).run P w = if 0 ≤ j ∧ j < P.arrayLen t then ((sizeOf (P.elem t)).run P w).andThen fun s w => (part (P.elem t) cs (j.toNat * s)).run P w else (boundsPanic k j (P.arrayLen t) .index).run P w := by
  simp [Instr.index, run_underlying h, asIntOf]
end
section
variable {α : Type} {d : Kd α} {W : World} {x : α}
theorem wrap_eq {n : Int} (h : -9223372036854775808 ≤ n ∧ n ≤ 9223372036854775807) : n = wrap64 n := (IntWalk.wrap64_in n h).symm
/-- A variable in memory, as a slice of one element. -/
theorem ro_of_part {g T : Nat} {cs : Array Value} {o n : Nat} (h : W.heap[g]? = some (.cells cs T (0, 0))) (hk : d.K W x ((cs.toList.drop o).take n)) : d.C W (some ⟨g, o, none⟩) [x].length [x] := by
  refine ⟨rfl, by simp, fun _ => ⟨⟨g, o, none⟩, rfl, fun j p hj => ?_⟩⟩
  obtain ⟨rfl, rfl⟩ : j = 0 ∧ p = x := by
    cases j with
    | zero => simpa using hj.symm
    | succ j => simp at hj
  refine ⟨_, d.K_len hk, hk, fun i u hu => ?_⟩
  rw [Nat.zero_mul, Nat.zero_add]
  have e : (⟨g, o, none⟩ : Addr).add i = ⟨g, o + i, none⟩ := by unfold Addr.add; split <;> simp_all
  rw [e, blk_cell h]
  rw [List.getElem?_take] at hu
  split at hu
  · rw [List.getElem?_drop] at hu; simpa using hu
  · cases hu
theorem ro_of_blk {g T : Nat} {cs : Array Value} (h : W.heap[g]? = some (.cells cs T (0, 0))) (hk : d.K W x cs.toList) : d.C W (some ⟨g, 0, none⟩) [x].length [x] :=
  ro_of_part (o := 0) (n := cs.toList.length) h (by rw [List.drop_zero, List.take_length]; exact hk)
/-- An element of a slice, as a slice of one element. -/
theorem ro_of_elem {n : Nat} {xs : List α} (z : α) (i : Int) (h0 : 0 ≤ i) (h1 : i < n) {ad : Addr} (h : d.C W (some ad) n xs) : d.C W (some (ad.add (i.toNat * d.sz))) [xs.getD i.toNat z].length [xs.getD i.toNat z] := by
  obtain ⟨ad', c, e, hl, hk, hc⟩ := Kd.C_get h z i h0 h1
  cases e
  refine ⟨rfl, by simp, fun _ => ⟨_, rfl, fun j p hj => ?_⟩⟩
  obtain ⟨rfl, rfl⟩ : j = 0 ∧ p = xs.getD i.toNat z := by
    cases j with
    | zero => simpa using hj.symm
    | succ j => simp at hj
  refine ⟨c, hl, hk, fun j u hu => ?_⟩
  rw [Nat.zero_mul, Nat.zero_add]
  have := hc j u hu
  rwa [← add_add] at this
end
end Go.Proofs.YtkcbcbannbllaaaX
