-- WRITTEN by xprint.py, a program of this session's. Not trusted: Lean checks it.
-- packed by pack.py
import Derived.Test.YtffnfpnajkgnaaaProg
import Derived.Below
import Derived.Deep.Draws
import Derived.Deep.AppendLies
import Derived.Maps.AppendAt
import Derived.OwnWalk
import Derived.Laws.BytesArg
import Derived.Laws.MakeOwn
import Derived.Laws.OwnMore
import Derived.Deep.OwnRows
import Derived.Tactics
import Derived.Lib.ConvBytes
import Derived.Laws.Slices
import Derived.WalkKit
import Derived.KernelRfl
import Derived.RowKit3
import Derived.Deep.LoopGhost
import Derived.Deep.QuietTactic
import Derived.BigQuiet
import Derived.WideLaws
import Derived.Deep.DeepCutAuto
import Derived.Deep.CutBlock
import Derived.Deep.RegionHeld3
import Derived.Laws.Rows
import Derived.Lib.AppendStr
import Derived.ArgAppend
import Derived.Laws.IdiomCopy
import Derived.OrdersHeld
import Derived.Laws.BitsLemmas
import Derived.RowKit
import Derived.Test.YtffnfpnajkgnaaaTFnExactMoveMachinea
namespace Go.Proofs.Ytffnfpnajkgnaaa.PFnExactMoveMachine
open Go.RowKit Go.Proofs.YtffnfpnajkgnaaaW.PrintWords Go.Proofs.YtffnfpnajkgnaaaW.PrintLast Go.Proofs.YtffnfpnajkgnaaaW.PrintMore Go.Proofs.YtffnfpnajkgnaaaX
attribute [local go_sem] max2_int min2_int max_two min_two max_three min_three max_four min_four   -- for this text's walks alone
set_option linter.unusedVariables false
set_option linter.unusedSimpArgs false



def errW : Option Int → Value
  | none => .nilIface
  | some c => .iface 0 (.int .i64 c)
theorem errW_none : errW none = .nilIface := rfl
theorem errW_some (c : Int) : errW (some c) = .iface 0 (.int .i64 c) := rfl

theorem info74 : (Try.prog.info? 74).map (fun i => (i.zero, i.size, i.bytes)) = some (some (.agg #[(.int .i8 0), (.int .i8 0)]), 2, 2) := by kernel_rfl
theorem info91 : (Try.prog.info? 91).map (fun i => (i.zero, i.size, i.bytes)) = some (some (.agg #[(.int .i8 0), (.int .i8 0), (.int .i8 0), (.int .i8 0), (.int .i8 0)]), 5, 5) := by kernel_rfl
theorem info116 : (Try.prog.info? 116).map (fun i => (i.zero, i.size, i.bytes)) = some (some (.agg #[(.int .i8 0), (.int .i8 0), (.int .i8 0)]), 3, 3) := by kernel_rfl
-- the values' own types
/-! #### struct type 71 -/
structure S71 where
  f0 : Int
  f1 : Int
def z71 : S71 := ⟨(0 : Int), (0 : Int)⟩
def k71 : Kd S71 := Kd.iso (Kd.pair (Kd.int .i8) (Kd.int .i8)) (fun x : S71 => (x.f0, x.f1))
theorem k71_open {w : World} {x : S71} {cs : List Value} (h : k71.K w x cs) : cs = [.int .i8 x.f0, .int .i8 x.f1] := by
 obtain ⟨_, _, rfl, rfl, rfl⟩ := h
 exact rfl
theorem k71_openM {w : World} {base : Nat} {ok : Nat → Prop} {x : S71} {cs : List Value} (h : k71.M w base ok x cs) : cs = [.int .i8 x.f0, .int .i8 x.f1] := by
 obtain ⟨_, _, rfl, rfl, rfl⟩ := h
 exact rfl
theorem k71_mk (w : World) (x : S71)  : k71.K w x [.int .i8 x.f0, .int .i8 x.f1] := ⟨[.int .i8 x.f0], [.int .i8 x.f1], rfl, rfl, rfl⟩
theorem k71_mkM (w : World) (base : Nat) (ok : Nat → Prop) (x : S71)  : k71.M w base ok x [.int .i8 x.f0, .int .i8 x.f1] := ⟨[.int .i8 x.f0], [.int .i8 x.f1], rfl, rfl, rfl⟩
def rd_T71 (xs : List S71) (i : Int) : S71 := xs.getD i.toNat z71
theorem at_T71 {w : World} {A : Option Addr} {n : Nat} {xs : List S71} (h : Kd.C k71 w A n xs) (i : Int) (h0 : 0 ≤ i) (h1 : i < n) : ∃ ad , A = some ad ∧ w.cell? (ad.add (i.toNat * 2)) = some (.int .i8 (rd_T71 xs i).f0) ∧ w.cell? ⟨(ad.add (i.toNat * 2)).block, (ad.add (i.toNat * 2)).off + 1, none⟩ = some (.int .i8 (rd_T71 xs i).f1) := by
 obtain ⟨ad, c, e, _, hK, hc0⟩ := Kd.C_get h z71 i h0 h1
 have hc : ∀ j u, c[j]? = some u → w.cell? (ad.add (i.toNat * 2 + j)) = some u := hc0
 obtain rfl := k71_open hK
 exact ⟨ad, e, hc 0 _ rfl, by rw [← add_field _ _ 1 (by omega)]; exact hc 1 _ rfl⟩
/-! #### struct type 88 -/
structure S88 where
  f0 : S71
  f1 : Int
  f2 : Int
  f3 : Int
def z88 : S88 := ⟨z71, (0 : Int), (0 : Int), (0 : Int)⟩
def k88 : Kd S88 := Kd.iso (Kd.pair k71 (Kd.pair (Kd.int .i8) (Kd.pair (Kd.int .i8) (Kd.int .i8)))) (fun x : S88 => (x.f0, x.f1, x.f2, x.f3))
theorem k88_open {w : World} {x : S88} {cs : List Value} (h : k88.K w x cs) : cs = [.int .i8 x.f0.f0, .int .i8 x.f0.f1, .int .i8 x.f1, .int .i8 x.f2, .int .i8 x.f3] := by
 obtain ⟨_, _, rfl, s0, ⟨_, _, rfl, rfl, ⟨_, _, rfl, rfl, rfl⟩⟩⟩ := h
 obtain rfl := k71_open s0
 exact rfl
theorem k88_openM {w : World} {base : Nat} {ok : Nat → Prop} {x : S88} {cs : List Value} (h : k88.M w base ok x cs) : cs = [.int .i8 x.f0.f0, .int .i8 x.f0.f1, .int .i8 x.f1, .int .i8 x.f2, .int .i8 x.f3] := by
 obtain ⟨_, _, rfl, s0, ⟨_, _, rfl, rfl, ⟨_, _, rfl, rfl, rfl⟩⟩⟩ := h
 obtain rfl := k71_openM s0
 exact rfl
theorem k88_mk (w : World) (x : S88)  : k88.K w x [.int .i8 x.f0.f0, .int .i8 x.f0.f1, .int .i8 x.f1, .int .i8 x.f2, .int .i8 x.f3] := ⟨[.int .i8 x.f0.f0, .int .i8 x.f0.f1], [.int .i8 x.f1, .int .i8 x.f2, .int .i8 x.f3], rfl, (k71_mk w x.f0 ), ⟨[.int .i8 x.f1], [.int .i8 x.f2, .int .i8 x.f3], rfl, rfl, ⟨[.int .i8 x.f2], [.int .i8 x.f3], rfl, rfl, rfl⟩⟩⟩
theorem k88_mkM (w : World) (base : Nat) (ok : Nat → Prop) (x : S88)  : k88.M w base ok x [.int .i8 x.f0.f0, .int .i8 x.f0.f1, .int .i8 x.f1, .int .i8 x.f2, .int .i8 x.f3] := ⟨[.int .i8 x.f0.f0, .int .i8 x.f0.f1], [.int .i8 x.f1, .int .i8 x.f2, .int .i8 x.f3], rfl, (k71_mkM w base ok x.f0 ), ⟨[.int .i8 x.f1], [.int .i8 x.f2, .int .i8 x.f3], rfl, rfl, ⟨[.int .i8 x.f2], [.int .i8 x.f3], rfl, rfl, rfl⟩⟩⟩
def rd_T88 (xs : List S88) (i : Int) : S88 := xs.getD i.toNat z88
theorem at_T88 {w : World} {A : Option Addr} {n : Nat} {xs : List S88} (h : Kd.C k88 w A n xs) (i : Int) (h0 : 0 ≤ i) (h1 : i < n) : ∃ ad , A = some ad ∧ w.cell? (ad.add (i.toNat * 5)) = some (.int .i8 (rd_T88 xs i).f0.f0) ∧ w.cell? ⟨(ad.add (i.toNat * 5)).block, (ad.add (i.toNat * 5)).off + 1, none⟩ = some (.int .i8 (rd_T88 xs i).f0.f1) ∧ w.cell? ⟨(ad.add (i.toNat * 5)).block, (ad.add (i.toNat * 5)).off + 2, none⟩ = some (.int .i8 (rd_T88 xs i).f1) ∧ w.cell? ⟨(ad.add (i.toNat * 5)).block, (ad.add (i.toNat * 5)).off + 3, none⟩ = some (.int .i8 (rd_T88 xs i).f2) ∧ w.cell? ⟨(ad.add (i.toNat * 5)).block, (ad.add (i.toNat * 5)).off + 4, none⟩ = some (.int .i8 (rd_T88 xs i).f3) := by
 obtain ⟨ad, c, e, _, hK, hc0⟩ := Kd.C_get h z88 i h0 h1
 have hc : ∀ j u, c[j]? = some u → w.cell? (ad.add (i.toNat * 5 + j)) = some u := hc0
 obtain rfl := k88_open hK
 exact ⟨ad, e, hc 0 _ rfl, by rw [← add_field _ _ 1 (by omega)]; exact hc 1 _ rfl, by rw [← add_field _ _ 2 (by omega)]; exact hc 2 _ rfl, by rw [← add_field _ _ 3 (by omega)]; exact hc 3 _ rfl, by rw [← add_field _ _ 4 (by omega)]; exact hc 4 _ rfl⟩
/-! #### struct type 182 -/
structure S182 where
  f0 : S71
  f1 : Int
def z182 : S182 := ⟨z71, (0 : Int)⟩
def k182 : Kd S182 := Kd.iso (Kd.pair k71 (Kd.int .i8)) (fun x : S182 => (x.f0, x.f1))
theorem k182_open {w : World} {x : S182} {cs : List Value} (h : k182.K w x cs) : cs = [.int .i8 x.f0.f0, .int .i8 x.f0.f1, .int .i8 x.f1] := by
 obtain ⟨_, _, rfl, s0, rfl⟩ := h
 obtain rfl := k71_open s0
 exact rfl
theorem k182_openM {w : World} {base : Nat} {ok : Nat → Prop} {x : S182} {cs : List Value} (h : k182.M w base ok x cs) : cs = [.int .i8 x.f0.f0, .int .i8 x.f0.f1, .int .i8 x.f1] := by
 obtain ⟨_, _, rfl, s0, rfl⟩ := h
 obtain rfl := k71_openM s0
 exact rfl
theorem k182_mk (w : World) (x : S182)  : k182.K w x [.int .i8 x.f0.f0, .int .i8 x.f0.f1, .int .i8 x.f1] := ⟨[.int .i8 x.f0.f0, .int .i8 x.f0.f1], [.int .i8 x.f1], rfl, (k71_mk w x.f0 ), rfl⟩
theorem k182_mkM (w : World) (base : Nat) (ok : Nat → Prop) (x : S182)  : k182.M w base ok x [.int .i8 x.f0.f0, .int .i8 x.f0.f1, .int .i8 x.f1] := ⟨[.int .i8 x.f0.f0, .int .i8 x.f0.f1], [.int .i8 x.f1], rfl, (k71_mkM w base ok x.f0 ), rfl⟩
def rd_T182 (xs : List S182) (i : Int) : S182 := xs.getD i.toNat z182
theorem at_T182 {w : World} {A : Option Addr} {n : Nat} {xs : List S182} (h : Kd.C k182 w A n xs) (i : Int) (h0 : 0 ≤ i) (h1 : i < n) : ∃ ad , A = some ad ∧ w.cell? (ad.add (i.toNat * 3)) = some (.int .i8 (rd_T182 xs i).f0.f0) ∧ w.cell? ⟨(ad.add (i.toNat * 3)).block, (ad.add (i.toNat * 3)).off + 1, none⟩ = some (.int .i8 (rd_T182 xs i).f0.f1) ∧ w.cell? ⟨(ad.add (i.toNat * 3)).block, (ad.add (i.toNat * 3)).off + 2, none⟩ = some (.int .i8 (rd_T182 xs i).f1) := by
 obtain ⟨ad, c, e, _, hK, hc0⟩ := Kd.C_get h z182 i h0 h1
 have hc : ∀ j u, c[j]? = some u → w.cell? (ad.add (i.toNat * 3 + j)) = some u := hc0
 obtain rfl := k182_open hK
 exact ⟨ad, e, hc 0 _ rfl, by rw [← add_field _ _ 1 (by omega)]; exact hc 1 _ rfl, by rw [← add_field _ _ 2 (by omega)]; exact hc 2 _ rfl⟩
/-! #### struct type 74 -/
structure S74 where
  f0 : Int
  f1 : Int
def z74 : S74 := ⟨(0 : Int), (0 : Int)⟩
def k74 : Kd S74 := Kd.iso (Kd.pair (Kd.int .i8) (Kd.int .i8)) (fun x : S74 => (x.f0, x.f1))
theorem k74_open {w : World} {x : S74} {cs : List Value} (h : k74.K w x cs) : cs = [.int .i8 x.f0, .int .i8 x.f1] := by
 obtain ⟨_, _, rfl, rfl, rfl⟩ := h
 exact rfl
theorem k74_openM {w : World} {base : Nat} {ok : Nat → Prop} {x : S74} {cs : List Value} (h : k74.M w base ok x cs) : cs = [.int .i8 x.f0, .int .i8 x.f1] := by
 obtain ⟨_, _, rfl, rfl, rfl⟩ := h
 exact rfl
theorem k74_mk (w : World) (x : S74)  : k74.K w x [.int .i8 x.f0, .int .i8 x.f1] := ⟨[.int .i8 x.f0], [.int .i8 x.f1], rfl, rfl, rfl⟩
theorem k74_mkM (w : World) (base : Nat) (ok : Nat → Prop) (x : S74)  : k74.M w base ok x [.int .i8 x.f0, .int .i8 x.f1] := ⟨[.int .i8 x.f0], [.int .i8 x.f1], rfl, rfl, rfl⟩
def rd_T74 (xs : List S74) (i : Int) : S74 := xs.getD i.toNat z74
theorem at_T74 {w : World} {A : Option Addr} {n : Nat} {xs : List S74} (h : Kd.C k74 w A n xs) (i : Int) (h0 : 0 ≤ i) (h1 : i < n) : ∃ ad , A = some ad ∧ w.cell? (ad.add (i.toNat * 2)) = some (.int .i8 (rd_T74 xs i).f0) ∧ w.cell? ⟨(ad.add (i.toNat * 2)).block, (ad.add (i.toNat * 2)).off + 1, none⟩ = some (.int .i8 (rd_T74 xs i).f1) := by
 obtain ⟨ad, c, e, _, hK, hc0⟩ := Kd.C_get h z74 i h0 h1
 have hc : ∀ j u, c[j]? = some u → w.cell? (ad.add (i.toNat * 2 + j)) = some u := hc0
 obtain rfl := k74_open hK
 exact ⟨ad, e, hc 0 _ rfl, by rw [← add_field _ _ 1 (by omega)]; exact hc 1 _ rfl⟩
/-! #### struct type 91 -/
structure S91 where
  f0 : S74
  f1 : Int
  f2 : Int
  f3 : Int
def z91 : S91 := ⟨z74, (0 : Int), (0 : Int), (0 : Int)⟩
def k91 : Kd S91 := Kd.iso (Kd.pair k74 (Kd.pair (Kd.int .i8) (Kd.pair (Kd.int .i8) (Kd.int .i8)))) (fun x : S91 => (x.f0, x.f1, x.f2, x.f3))
theorem k91_open {w : World} {x : S91} {cs : List Value} (h : k91.K w x cs) : cs = [.int .i8 x.f0.f0, .int .i8 x.f0.f1, .int .i8 x.f1, .int .i8 x.f2, .int .i8 x.f3] := by
 obtain ⟨_, _, rfl, s0, ⟨_, _, rfl, rfl, ⟨_, _, rfl, rfl, rfl⟩⟩⟩ := h
 obtain rfl := k74_open s0
 exact rfl
theorem k91_openM {w : World} {base : Nat} {ok : Nat → Prop} {x : S91} {cs : List Value} (h : k91.M w base ok x cs) : cs = [.int .i8 x.f0.f0, .int .i8 x.f0.f1, .int .i8 x.f1, .int .i8 x.f2, .int .i8 x.f3] := by
 obtain ⟨_, _, rfl, s0, ⟨_, _, rfl, rfl, ⟨_, _, rfl, rfl, rfl⟩⟩⟩ := h
 obtain rfl := k74_openM s0
 exact rfl
theorem k91_mk (w : World) (x : S91)  : k91.K w x [.int .i8 x.f0.f0, .int .i8 x.f0.f1, .int .i8 x.f1, .int .i8 x.f2, .int .i8 x.f3] := ⟨[.int .i8 x.f0.f0, .int .i8 x.f0.f1], [.int .i8 x.f1, .int .i8 x.f2, .int .i8 x.f3], rfl, (k74_mk w x.f0 ), ⟨[.int .i8 x.f1], [.int .i8 x.f2, .int .i8 x.f3], rfl, rfl, ⟨[.int .i8 x.f2], [.int .i8 x.f3], rfl, rfl, rfl⟩⟩⟩
theorem k91_mkM (w : World) (base : Nat) (ok : Nat → Prop) (x : S91)  : k91.M w base ok x [.int .i8 x.f0.f0, .int .i8 x.f0.f1, .int .i8 x.f1, .int .i8 x.f2, .int .i8 x.f3] := ⟨[.int .i8 x.f0.f0, .int .i8 x.f0.f1], [.int .i8 x.f1, .int .i8 x.f2, .int .i8 x.f3], rfl, (k74_mkM w base ok x.f0 ), ⟨[.int .i8 x.f1], [.int .i8 x.f2, .int .i8 x.f3], rfl, rfl, ⟨[.int .i8 x.f2], [.int .i8 x.f3], rfl, rfl, rfl⟩⟩⟩
def rd_T91 (xs : List S91) (i : Int) : S91 := xs.getD i.toNat z91
theorem at_T91 {w : World} {A : Option Addr} {n : Nat} {xs : List S91} (h : Kd.C k91 w A n xs) (i : Int) (h0 : 0 ≤ i) (h1 : i < n) : ∃ ad , A = some ad ∧ w.cell? (ad.add (i.toNat * 5)) = some (.int .i8 (rd_T91 xs i).f0.f0) ∧ w.cell? ⟨(ad.add (i.toNat * 5)).block, (ad.add (i.toNat * 5)).off + 1, none⟩ = some (.int .i8 (rd_T91 xs i).f0.f1) ∧ w.cell? ⟨(ad.add (i.toNat * 5)).block, (ad.add (i.toNat * 5)).off + 2, none⟩ = some (.int .i8 (rd_T91 xs i).f1) ∧ w.cell? ⟨(ad.add (i.toNat * 5)).block, (ad.add (i.toNat * 5)).off + 3, none⟩ = some (.int .i8 (rd_T91 xs i).f2) ∧ w.cell? ⟨(ad.add (i.toNat * 5)).block, (ad.add (i.toNat * 5)).off + 4, none⟩ = some (.int .i8 (rd_T91 xs i).f3) := by
 obtain ⟨ad, c, e, _, hK, hc0⟩ := Kd.C_get h z91 i h0 h1
 have hc : ∀ j u, c[j]? = some u → w.cell? (ad.add (i.toNat * 5 + j)) = some u := hc0
 obtain rfl := k91_open hK
 exact ⟨ad, e, hc 0 _ rfl, by rw [← add_field _ _ 1 (by omega)]; exact hc 1 _ rfl, by rw [← add_field _ _ 2 (by omega)]; exact hc 2 _ rfl, by rw [← add_field _ _ 3 (by omega)]; exact hc 3 _ rfl, by rw [← add_field _ _ 4 (by omega)]; exact hc 4 _ rfl⟩
/-! #### struct type 116 -/
structure S116 where
  f0 : S74
  f1 : Int
def z116 : S116 := ⟨z74, (0 : Int)⟩
def k116 : Kd S116 := Kd.iso (Kd.pair k74 (Kd.int .i8)) (fun x : S116 => (x.f0, x.f1))
theorem k116_open {w : World} {x : S116} {cs : List Value} (h : k116.K w x cs) : cs = [.int .i8 x.f0.f0, .int .i8 x.f0.f1, .int .i8 x.f1] := by
 obtain ⟨_, _, rfl, s0, rfl⟩ := h
 obtain rfl := k74_open s0
 exact rfl
theorem k116_openM {w : World} {base : Nat} {ok : Nat → Prop} {x : S116} {cs : List Value} (h : k116.M w base ok x cs) : cs = [.int .i8 x.f0.f0, .int .i8 x.f0.f1, .int .i8 x.f1] := by
 obtain ⟨_, _, rfl, s0, rfl⟩ := h
 obtain rfl := k74_openM s0
 exact rfl
theorem k116_mk (w : World) (x : S116)  : k116.K w x [.int .i8 x.f0.f0, .int .i8 x.f0.f1, .int .i8 x.f1] := ⟨[.int .i8 x.f0.f0, .int .i8 x.f0.f1], [.int .i8 x.f1], rfl, (k74_mk w x.f0 ), rfl⟩
theorem k116_mkM (w : World) (base : Nat) (ok : Nat → Prop) (x : S116)  : k116.M w base ok x [.int .i8 x.f0.f0, .int .i8 x.f0.f1, .int .i8 x.f1] := ⟨[.int .i8 x.f0.f0, .int .i8 x.f0.f1], [.int .i8 x.f1], rfl, (k74_mkM w base ok x.f0 ), rfl⟩
def rd_T116 (xs : List S116) (i : Int) : S116 := xs.getD i.toNat z116
theorem at_T116 {w : World} {A : Option Addr} {n : Nat} {xs : List S116} (h : Kd.C k116 w A n xs) (i : Int) (h0 : 0 ≤ i) (h1 : i < n) : ∃ ad , A = some ad ∧ w.cell? (ad.add (i.toNat * 3)) = some (.int .i8 (rd_T116 xs i).f0.f0) ∧ w.cell? ⟨(ad.add (i.toNat * 3)).block, (ad.add (i.toNat * 3)).off + 1, none⟩ = some (.int .i8 (rd_T116 xs i).f0.f1) ∧ w.cell? ⟨(ad.add (i.toNat * 3)).block, (ad.add (i.toNat * 3)).off + 2, none⟩ = some (.int .i8 (rd_T116 xs i).f1) := by
 obtain ⟨ad, c, e, _, hK, hc0⟩ := Kd.C_get h z116 i h0 h1
 have hc : ∀ j u, c[j]? = some u → w.cell? (ad.add (i.toNat * 3 + j)) = some u := hc0
 obtain rfl := k116_open hK
 exact ⟨ad, e, hc 0 _ rfl, by rw [← add_field _ _ 1 (by omega)]; exact hc 1 _ rfl, by rw [← add_field _ _ 2 (by omega)]; exact hc 2 _ rfl⟩
def rd_L7 (xs : List (List S91)) (i : Int) : (List S91) := xs.getD i.toNat ([] : List S91)
theorem at_L7 {w : World} {A : Option Addr} {n : Nat} {xs : List (List S91)} (h : Kd.C (Kd.slice 91 k91) w A n xs) (i : Int) (h0 : 0 ≤ i) (h1 : i < n) : ∃ ad A0 c0, A = some ad ∧ w.cell? (ad.add i.toNat) = some (.slice A0 (rd_L7 xs i).length c0) ∧ (rd_L7 xs i).length ≤ c0 ∧ k91.C w A0 (rd_L7 xs i).length (rd_L7 xs i) := by
 obtain ⟨ad, c, e, _, hK, hc0⟩ := Kd.C_get h ([] : List S91) i h0 h1
 have hc : ∀ j u, c[j]? = some u → w.cell? (ad.add (i.toNat * 1 + j)) = some u := hc0
 obtain ⟨A0, c0, rfl, l0, g0⟩ := hK
 exact ⟨ad, A0, c0, e, by have hq := hc 0 _ rfl; rwa [Nat.mul_one, Nat.add_zero] at hq, l0, g0⟩
/-! #### struct type 37 -/
structure S37 where
  f0 : Int
  f1 : Int
  f2 : (List S91)
def z37 : S37 := ⟨(0 : Int), (0 : Int), ([] : List S91)⟩
def k37 : Kd S37 := Kd.iso (Kd.pair (Kd.int .i8) (Kd.pair (Kd.int .i8) (Kd.slice 91 k91))) (fun x : S37 => (x.f0, x.f1, x.f2))
theorem k37_open {w : World} {x : S37} {cs : List Value} (h : k37.K w x cs) : ∃ A2 c2, cs = [.int .i8 x.f0, .int .i8 x.f1, .slice A2 x.f2.length c2] ∧ x.f2.length ≤ c2 ∧ k91.C w A2 x.f2.length x.f2 := by
 obtain ⟨_, _, rfl, rfl, ⟨_, _, rfl, rfl, ⟨A2, c2, rfl, l2, g2⟩⟩⟩ := h
 exact ⟨A2, c2, rfl, l2, g2⟩
theorem k37_openM {w : World} {base : Nat} {ok : Nat → Prop} {x : S37} {cs : List Value} (h : k37.M w base ok x cs) : ∃ v2, cs = [.int .i8 x.f0, .int .i8 x.f1, v2] ∧ k91.R 91 w base ok v2 x.f2 := by
 obtain ⟨_, _, rfl, rfl, ⟨_, _, rfl, rfl, ⟨v2, rfl, g2⟩⟩⟩ := h
 exact ⟨v2, rfl, g2⟩
theorem k37_mk (w : World) (x : S37) {A2 : Option Addr} {c2 : Nat} (l2 : x.f2.length ≤ c2) (g2 : k91.C w A2 x.f2.length x.f2) : k37.K w x [.int .i8 x.f0, .int .i8 x.f1, .slice A2 x.f2.length c2] := ⟨[.int .i8 x.f0], [.int .i8 x.f1, .slice A2 x.f2.length c2], rfl, rfl, ⟨[.int .i8 x.f1], [.slice A2 x.f2.length c2], rfl, rfl, ⟨A2, c2, rfl, l2, g2⟩⟩⟩
theorem k37_mkM (w : World) (base : Nat) (ok : Nat → Prop) (x : S37) {v2 : Value} (g2 : k91.R 91 w base ok v2 x.f2) : k37.M w base ok x [.int .i8 x.f0, .int .i8 x.f1, v2] := ⟨[.int .i8 x.f0], [.int .i8 x.f1, v2], rfl, rfl, ⟨[.int .i8 x.f1], [v2], rfl, rfl, ⟨v2, rfl, g2⟩⟩⟩
def rd_T37 (xs : List S37) (i : Int) : S37 := xs.getD i.toNat z37
theorem at_T37 {w : World} {A : Option Addr} {n : Nat} {xs : List S37} (h : Kd.C k37 w A n xs) (i : Int) (h0 : 0 ≤ i) (h1 : i < n) : ∃ ad A2 c2, A = some ad ∧ w.cell? (ad.add (i.toNat * 3)) = some (.int .i8 (rd_T37 xs i).f0) ∧ w.cell? ⟨(ad.add (i.toNat * 3)).block, (ad.add (i.toNat * 3)).off + 1, none⟩ = some (.int .i8 (rd_T37 xs i).f1) ∧ w.cell? ⟨(ad.add (i.toNat * 3)).block, (ad.add (i.toNat * 3)).off + 2, none⟩ = some (.slice A2 (rd_T37 xs i).f2.length c2) ∧ (rd_T37 xs i).f2.length ≤ c2 ∧ k91.C w A2 (rd_T37 xs i).f2.length (rd_T37 xs i).f2 := by
 obtain ⟨ad, c, e, _, hK, hc0⟩ := Kd.C_get h z37 i h0 h1
 have hc : ∀ j u, c[j]? = some u → w.cell? (ad.add (i.toNat * 3 + j)) = some u := hc0
 obtain ⟨A2, c2, rfl, l2, g2⟩ := k37_open hK
 exact ⟨ad, A2, c2, e, hc 0 _ rfl, by rw [← add_field _ _ 1 (by omega)]; exact hc 1 _ rfl, by rw [← add_field _ _ 2 (by omega)]; exact hc 2 _ rfl, l2, g2⟩
def rd_L9 (xs : List (List S116)) (i : Int) : (List S116) := xs.getD i.toNat ([] : List S116)
theorem at_L9 {w : World} {A : Option Addr} {n : Nat} {xs : List (List S116)} (h : Kd.C (Kd.slice 116 k116) w A n xs) (i : Int) (h0 : 0 ≤ i) (h1 : i < n) : ∃ ad A0 c0, A = some ad ∧ w.cell? (ad.add i.toNat) = some (.slice A0 (rd_L9 xs i).length c0) ∧ (rd_L9 xs i).length ≤ c0 ∧ k116.C w A0 (rd_L9 xs i).length (rd_L9 xs i) := by
 obtain ⟨ad, c, e, _, hK, hc0⟩ := Kd.C_get h ([] : List S116) i h0 h1
 have hc : ∀ j u, c[j]? = some u → w.cell? (ad.add (i.toNat * 1 + j)) = some u := hc0
 obtain ⟨A0, c0, rfl, l0, g0⟩ := hK
 exact ⟨ad, A0, c0, e, by have hq := hc 0 _ rfl; rwa [Nat.mul_one, Nat.add_zero] at hq, l0, g0⟩
def rd_L10 (xs : List (List S74)) (i : Int) : (List S74) := xs.getD i.toNat ([] : List S74)
theorem at_L10 {w : World} {A : Option Addr} {n : Nat} {xs : List (List S74)} (h : Kd.C (Kd.slice 74 k74) w A n xs) (i : Int) (h0 : 0 ≤ i) (h1 : i < n) : ∃ ad A0 c0, A = some ad ∧ w.cell? (ad.add i.toNat) = some (.slice A0 (rd_L10 xs i).length c0) ∧ (rd_L10 xs i).length ≤ c0 ∧ k74.C w A0 (rd_L10 xs i).length (rd_L10 xs i) := by
 obtain ⟨ad, c, e, _, hK, hc0⟩ := Kd.C_get h ([] : List S74) i h0 h1
 have hc : ∀ j u, c[j]? = some u → w.cell? (ad.add (i.toNat * 1 + j)) = some u := hc0
 obtain ⟨A0, c0, rfl, l0, g0⟩ := hK
 exact ⟨ad, A0, c0, e, by have hq := hc 0 _ rfl; rwa [Nat.mul_one, Nat.add_zero] at hq, l0, g0⟩
/-! #### struct type 41 -/
structure S41 where
  f0 : S37
  f1 : (List S116)
  f2 : (List S74)
def z41 : S41 := ⟨z37, ([] : List S116), ([] : List S74)⟩
def k41 : Kd S41 := Kd.iso (Kd.pair k37 (Kd.pair (Kd.slice 116 k116) (Kd.slice 74 k74))) (fun x : S41 => (x.f0, x.f1, x.f2))
theorem k41_open {w : World} {x : S41} {cs : List Value} (h : k41.K w x cs) : ∃ A2 c2 A3 c3 A4 c4, cs = [.int .i8 x.f0.f0, .int .i8 x.f0.f1, .slice A2 x.f0.f2.length c2, .slice A3 x.f1.length c3, .slice A4 x.f2.length c4] ∧ x.f0.f2.length ≤ c2 ∧ k91.C w A2 x.f0.f2.length x.f0.f2 ∧ x.f1.length ≤ c3 ∧ k116.C w A3 x.f1.length x.f1 ∧ x.f2.length ≤ c4 ∧ k74.C w A4 x.f2.length x.f2 := by
 obtain ⟨_, _, rfl, s0, ⟨_, _, rfl, ⟨A3, c3, rfl, l3, g3⟩, ⟨A4, c4, rfl, l4, g4⟩⟩⟩ := h
 obtain ⟨A2, c2, rfl, l2, g2⟩ := k37_open s0
 exact ⟨A2, c2, A3, c3, A4, c4, rfl, l2, g2, l3, g3, l4, g4⟩
theorem k41_openM {w : World} {base : Nat} {ok : Nat → Prop} {x : S41} {cs : List Value} (h : k41.M w base ok x cs) : ∃ v2 v3 v4, cs = [.int .i8 x.f0.f0, .int .i8 x.f0.f1, v2, v3, v4] ∧ k91.R 91 w base ok v2 x.f0.f2 ∧ k116.R 116 w base ok v3 x.f1 ∧ k74.R 74 w base ok v4 x.f2 := by
 obtain ⟨_, _, rfl, s0, ⟨_, _, rfl, ⟨v3, rfl, g3⟩, ⟨v4, rfl, g4⟩⟩⟩ := h
 obtain ⟨v2, rfl, g2⟩ := k37_openM s0
 exact ⟨v2, v3, v4, rfl, g2, g3, g4⟩
theorem k41_mk (w : World) (x : S41) {A2 : Option Addr} {c2 : Nat} (l2 : x.f0.f2.length ≤ c2) (g2 : k91.C w A2 x.f0.f2.length x.f0.f2) {A3 : Option Addr} {c3 : Nat} (l3 : x.f1.length ≤ c3) (g3 : k116.C w A3 x.f1.length x.f1) {A4 : Option Addr} {c4 : Nat} (l4 : x.f2.length ≤ c4) (g4 : k74.C w A4 x.f2.length x.f2) : k41.K w x [.int .i8 x.f0.f0, .int .i8 x.f0.f1, .slice A2 x.f0.f2.length c2, .slice A3 x.f1.length c3, .slice A4 x.f2.length c4] := ⟨[.int .i8 x.f0.f0, .int .i8 x.f0.f1, .slice A2 x.f0.f2.length c2], [.slice A3 x.f1.length c3, .slice A4 x.f2.length c4], rfl, (k37_mk w x.f0 l2 g2), ⟨[.slice A3 x.f1.length c3], [.slice A4 x.f2.length c4], rfl, ⟨A3, c3, rfl, l3, g3⟩, ⟨A4, c4, rfl, l4, g4⟩⟩⟩
theorem k41_mkM (w : World) (base : Nat) (ok : Nat → Prop) (x : S41) {v2 : Value} (g2 : k91.R 91 w base ok v2 x.f0.f2) {v3 : Value} (g3 : k116.R 116 w base ok v3 x.f1) {v4 : Value} (g4 : k74.R 74 w base ok v4 x.f2) : k41.M w base ok x [.int .i8 x.f0.f0, .int .i8 x.f0.f1, v2, v3, v4] := ⟨[.int .i8 x.f0.f0, .int .i8 x.f0.f1, v2], [v3, v4], rfl, (k37_mkM w base ok x.f0 g2), ⟨[v3], [v4], rfl, ⟨v3, rfl, g3⟩, ⟨v4, rfl, g4⟩⟩⟩
def rd_T41 (xs : List S41) (i : Int) : S41 := xs.getD i.toNat z41
theorem at_T41 {w : World} {A : Option Addr} {n : Nat} {xs : List S41} (h : Kd.C k41 w A n xs) (i : Int) (h0 : 0 ≤ i) (h1 : i < n) : ∃ ad A2 c2 A3 c3 A4 c4, A = some ad ∧ w.cell? (ad.add (i.toNat * 5)) = some (.int .i8 (rd_T41 xs i).f0.f0) ∧ w.cell? ⟨(ad.add (i.toNat * 5)).block, (ad.add (i.toNat * 5)).off + 1, none⟩ = some (.int .i8 (rd_T41 xs i).f0.f1) ∧ w.cell? ⟨(ad.add (i.toNat * 5)).block, (ad.add (i.toNat * 5)).off + 2, none⟩ = some (.slice A2 (rd_T41 xs i).f0.f2.length c2) ∧ w.cell? ⟨(ad.add (i.toNat * 5)).block, (ad.add (i.toNat * 5)).off + 3, none⟩ = some (.slice A3 (rd_T41 xs i).f1.length c3) ∧ w.cell? ⟨(ad.add (i.toNat * 5)).block, (ad.add (i.toNat * 5)).off + 4, none⟩ = some (.slice A4 (rd_T41 xs i).f2.length c4) ∧ (rd_T41 xs i).f0.f2.length ≤ c2 ∧ k91.C w A2 (rd_T41 xs i).f0.f2.length (rd_T41 xs i).f0.f2 ∧ (rd_T41 xs i).f1.length ≤ c3 ∧ k116.C w A3 (rd_T41 xs i).f1.length (rd_T41 xs i).f1 ∧ (rd_T41 xs i).f2.length ≤ c4 ∧ k74.C w A4 (rd_T41 xs i).f2.length (rd_T41 xs i).f2 := by
 obtain ⟨ad, c, e, _, hK, hc0⟩ := Kd.C_get h z41 i h0 h1
 have hc : ∀ j u, c[j]? = some u → w.cell? (ad.add (i.toNat * 5 + j)) = some u := hc0
 obtain ⟨A2, c2, A3, c3, A4, c4, rfl, l2, g2, l3, g3, l4, g4⟩ := k41_open hK
 exact ⟨ad, A2, c2, A3, c3, A4, c4, e, hc 0 _ rfl, by rw [← add_field _ _ 1 (by omega)]; exact hc 1 _ rfl, by rw [← add_field _ _ 2 (by omega)]; exact hc 2 _ rfl, by rw [← add_field _ _ 3 (by omega)]; exact hc 3 _ rfl, by rw [← add_field _ _ 4 (by omega)]; exact hc 4 _ rfl, l2, g2, l3, g3, l4, g4⟩
def rd_L13 (xs : List (List S88)) (i : Int) : (List S88) := xs.getD i.toNat ([] : List S88)
theorem at_L13 {w : World} {A : Option Addr} {n : Nat} {xs : List (List S88)} (h : Kd.C (Kd.slice 88 k88) w A n xs) (i : Int) (h0 : 0 ≤ i) (h1 : i < n) : ∃ ad A0 c0, A = some ad ∧ w.cell? (ad.add i.toNat) = some (.slice A0 (rd_L13 xs i).length c0) ∧ (rd_L13 xs i).length ≤ c0 ∧ k88.C w A0 (rd_L13 xs i).length (rd_L13 xs i) := by
 obtain ⟨ad, c, e, _, hK, hc0⟩ := Kd.C_get h ([] : List S88) i h0 h1
 have hc : ∀ j u, c[j]? = some u → w.cell? (ad.add (i.toNat * 1 + j)) = some u := hc0
 obtain ⟨A0, c0, rfl, l0, g0⟩ := hK
 exact ⟨ad, A0, c0, e, by have hq := hc 0 _ rfl; rwa [Nat.mul_one, Nat.add_zero] at hq, l0, g0⟩
/-! #### struct type 25 -/
structure S25 where
  f0 : Int
  f1 : Int
  f2 : (List S88)
def z25 : S25 := ⟨(0 : Int), (0 : Int), ([] : List S88)⟩
def k25 : Kd S25 := Kd.iso (Kd.pair (Kd.int .i8) (Kd.pair (Kd.int .i8) (Kd.slice 88 k88))) (fun x : S25 => (x.f0, x.f1, x.f2))
theorem k25_open {w : World} {x : S25} {cs : List Value} (h : k25.K w x cs) : ∃ A2 c2, cs = [.int .i8 x.f0, .int .i8 x.f1, .slice A2 x.f2.length c2] ∧ x.f2.length ≤ c2 ∧ k88.C w A2 x.f2.length x.f2 := by
 obtain ⟨_, _, rfl, rfl, ⟨_, _, rfl, rfl, ⟨A2, c2, rfl, l2, g2⟩⟩⟩ := h
 exact ⟨A2, c2, rfl, l2, g2⟩
theorem k25_openM {w : World} {base : Nat} {ok : Nat → Prop} {x : S25} {cs : List Value} (h : k25.M w base ok x cs) : ∃ v2, cs = [.int .i8 x.f0, .int .i8 x.f1, v2] ∧ k88.R 88 w base ok v2 x.f2 := by
 obtain ⟨_, _, rfl, rfl, ⟨_, _, rfl, rfl, ⟨v2, rfl, g2⟩⟩⟩ := h
 exact ⟨v2, rfl, g2⟩
theorem k25_mk (w : World) (x : S25) {A2 : Option Addr} {c2 : Nat} (l2 : x.f2.length ≤ c2) (g2 : k88.C w A2 x.f2.length x.f2) : k25.K w x [.int .i8 x.f0, .int .i8 x.f1, .slice A2 x.f2.length c2] := ⟨[.int .i8 x.f0], [.int .i8 x.f1, .slice A2 x.f2.length c2], rfl, rfl, ⟨[.int .i8 x.f1], [.slice A2 x.f2.length c2], rfl, rfl, ⟨A2, c2, rfl, l2, g2⟩⟩⟩
theorem k25_mkM (w : World) (base : Nat) (ok : Nat → Prop) (x : S25) {v2 : Value} (g2 : k88.R 88 w base ok v2 x.f2) : k25.M w base ok x [.int .i8 x.f0, .int .i8 x.f1, v2] := ⟨[.int .i8 x.f0], [.int .i8 x.f1, v2], rfl, rfl, ⟨[.int .i8 x.f1], [v2], rfl, rfl, ⟨v2, rfl, g2⟩⟩⟩
def rd_T25 (xs : List S25) (i : Int) : S25 := xs.getD i.toNat z25
theorem at_T25 {w : World} {A : Option Addr} {n : Nat} {xs : List S25} (h : Kd.C k25 w A n xs) (i : Int) (h0 : 0 ≤ i) (h1 : i < n) : ∃ ad A2 c2, A = some ad ∧ w.cell? (ad.add (i.toNat * 3)) = some (.int .i8 (rd_T25 xs i).f0) ∧ w.cell? ⟨(ad.add (i.toNat * 3)).block, (ad.add (i.toNat * 3)).off + 1, none⟩ = some (.int .i8 (rd_T25 xs i).f1) ∧ w.cell? ⟨(ad.add (i.toNat * 3)).block, (ad.add (i.toNat * 3)).off + 2, none⟩ = some (.slice A2 (rd_T25 xs i).f2.length c2) ∧ (rd_T25 xs i).f2.length ≤ c2 ∧ k88.C w A2 (rd_T25 xs i).f2.length (rd_T25 xs i).f2 := by
 obtain ⟨ad, c, e, _, hK, hc0⟩ := Kd.C_get h z25 i h0 h1
 have hc : ∀ j u, c[j]? = some u → w.cell? (ad.add (i.toNat * 3 + j)) = some u := hc0
 obtain ⟨A2, c2, rfl, l2, g2⟩ := k25_open hK
 exact ⟨ad, A2, c2, e, hc 0 _ rfl, by rw [← add_field _ _ 1 (by omega)]; exact hc 1 _ rfl, by rw [← add_field _ _ 2 (by omega)]; exact hc 2 _ rfl, l2, g2⟩
def rd_L15 (xs : List (List S182)) (i : Int) : (List S182) := xs.getD i.toNat ([] : List S182)
theorem at_L15 {w : World} {A : Option Addr} {n : Nat} {xs : List (List S182)} (h : Kd.C (Kd.slice 182 k182) w A n xs) (i : Int) (h0 : 0 ≤ i) (h1 : i < n) : ∃ ad A0 c0, A = some ad ∧ w.cell? (ad.add i.toNat) = some (.slice A0 (rd_L15 xs i).length c0) ∧ (rd_L15 xs i).length ≤ c0 ∧ k182.C w A0 (rd_L15 xs i).length (rd_L15 xs i) := by
 obtain ⟨ad, c, e, _, hK, hc0⟩ := Kd.C_get h ([] : List S182) i h0 h1
 have hc : ∀ j u, c[j]? = some u → w.cell? (ad.add (i.toNat * 1 + j)) = some u := hc0
 obtain ⟨A0, c0, rfl, l0, g0⟩ := hK
 exact ⟨ad, A0, c0, e, by have hq := hc 0 _ rfl; rwa [Nat.mul_one, Nat.add_zero] at hq, l0, g0⟩
def rd_L16 (xs : List (List S71)) (i : Int) : (List S71) := xs.getD i.toNat ([] : List S71)
theorem at_L16 {w : World} {A : Option Addr} {n : Nat} {xs : List (List S71)} (h : Kd.C (Kd.slice 71 k71) w A n xs) (i : Int) (h0 : 0 ≤ i) (h1 : i < n) : ∃ ad A0 c0, A = some ad ∧ w.cell? (ad.add i.toNat) = some (.slice A0 (rd_L16 xs i).length c0) ∧ (rd_L16 xs i).length ≤ c0 ∧ k71.C w A0 (rd_L16 xs i).length (rd_L16 xs i) := by
 obtain ⟨ad, c, e, _, hK, hc0⟩ := Kd.C_get h ([] : List S71) i h0 h1
 have hc : ∀ j u, c[j]? = some u → w.cell? (ad.add (i.toNat * 1 + j)) = some u := hc0
 obtain ⟨A0, c0, rfl, l0, g0⟩ := hK
 exact ⟨ad, A0, c0, e, by have hq := hc 0 _ rfl; rwa [Nat.mul_one, Nat.add_zero] at hq, l0, g0⟩
/-! #### struct type 29 -/
structure S29 where
  f0 : S25
  f1 : (List S182)
  f2 : (List S71)
def z29 : S29 := ⟨z25, ([] : List S182), ([] : List S71)⟩
def k29 : Kd S29 := Kd.iso (Kd.pair k25 (Kd.pair (Kd.slice 182 k182) (Kd.slice 71 k71))) (fun x : S29 => (x.f0, x.f1, x.f2))
theorem k29_open {w : World} {x : S29} {cs : List Value} (h : k29.K w x cs) : ∃ A2 c2 A3 c3 A4 c4, cs = [.int .i8 x.f0.f0, .int .i8 x.f0.f1, .slice A2 x.f0.f2.length c2, .slice A3 x.f1.length c3, .slice A4 x.f2.length c4] ∧ x.f0.f2.length ≤ c2 ∧ k88.C w A2 x.f0.f2.length x.f0.f2 ∧ x.f1.length ≤ c3 ∧ k182.C w A3 x.f1.length x.f1 ∧ x.f2.length ≤ c4 ∧ k71.C w A4 x.f2.length x.f2 := by
 obtain ⟨_, _, rfl, s0, ⟨_, _, rfl, ⟨A3, c3, rfl, l3, g3⟩, ⟨A4, c4, rfl, l4, g4⟩⟩⟩ := h
 obtain ⟨A2, c2, rfl, l2, g2⟩ := k25_open s0
 exact ⟨A2, c2, A3, c3, A4, c4, rfl, l2, g2, l3, g3, l4, g4⟩
theorem k29_openM {w : World} {base : Nat} {ok : Nat → Prop} {x : S29} {cs : List Value} (h : k29.M w base ok x cs) : ∃ v2 v3 v4, cs = [.int .i8 x.f0.f0, .int .i8 x.f0.f1, v2, v3, v4] ∧ k88.R 88 w base ok v2 x.f0.f2 ∧ k182.R 182 w base ok v3 x.f1 ∧ k71.R 71 w base ok v4 x.f2 := by
 obtain ⟨_, _, rfl, s0, ⟨_, _, rfl, ⟨v3, rfl, g3⟩, ⟨v4, rfl, g4⟩⟩⟩ := h
 obtain ⟨v2, rfl, g2⟩ := k25_openM s0
 exact ⟨v2, v3, v4, rfl, g2, g3, g4⟩
theorem k29_mk (w : World) (x : S29) {A2 : Option Addr} {c2 : Nat} (l2 : x.f0.f2.length ≤ c2) (g2 : k88.C w A2 x.f0.f2.length x.f0.f2) {A3 : Option Addr} {c3 : Nat} (l3 : x.f1.length ≤ c3) (g3 : k182.C w A3 x.f1.length x.f1) {A4 : Option Addr} {c4 : Nat} (l4 : x.f2.length ≤ c4) (g4 : k71.C w A4 x.f2.length x.f2) : k29.K w x [.int .i8 x.f0.f0, .int .i8 x.f0.f1, .slice A2 x.f0.f2.length c2, .slice A3 x.f1.length c3, .slice A4 x.f2.length c4] := ⟨[.int .i8 x.f0.f0, .int .i8 x.f0.f1, .slice A2 x.f0.f2.length c2], [.slice A3 x.f1.length c3, .slice A4 x.f2.length c4], rfl, (k25_mk w x.f0 l2 g2), ⟨[.slice A3 x.f1.length c3], [.slice A4 x.f2.length c4], rfl, ⟨A3, c3, rfl, l3, g3⟩, ⟨A4, c4, rfl, l4, g4⟩⟩⟩
theorem k29_mkM (w : World) (base : Nat) (ok : Nat → Prop) (x : S29) {v2 : Value} (g2 : k88.R 88 w base ok v2 x.f0.f2) {v3 : Value} (g3 : k182.R 182 w base ok v3 x.f1) {v4 : Value} (g4 : k71.R 71 w base ok v4 x.f2) : k29.M w base ok x [.int .i8 x.f0.f0, .int .i8 x.f0.f1, v2, v3, v4] := ⟨[.int .i8 x.f0.f0, .int .i8 x.f0.f1, v2], [v3, v4], rfl, (k25_mkM w base ok x.f0 g2), ⟨[v3], [v4], rfl, ⟨v3, rfl, g3⟩, ⟨v4, rfl, g4⟩⟩⟩
def rd_T29 (xs : List S29) (i : Int) : S29 := xs.getD i.toNat z29
theorem at_T29 {w : World} {A : Option Addr} {n : Nat} {xs : List S29} (h : Kd.C k29 w A n xs) (i : Int) (h0 : 0 ≤ i) (h1 : i < n) : ∃ ad A2 c2 A3 c3 A4 c4, A = some ad ∧ w.cell? (ad.add (i.toNat * 5)) = some (.int .i8 (rd_T29 xs i).f0.f0) ∧ w.cell? ⟨(ad.add (i.toNat * 5)).block, (ad.add (i.toNat * 5)).off + 1, none⟩ = some (.int .i8 (rd_T29 xs i).f0.f1) ∧ w.cell? ⟨(ad.add (i.toNat * 5)).block, (ad.add (i.toNat * 5)).off + 2, none⟩ = some (.slice A2 (rd_T29 xs i).f0.f2.length c2) ∧ w.cell? ⟨(ad.add (i.toNat * 5)).block, (ad.add (i.toNat * 5)).off + 3, none⟩ = some (.slice A3 (rd_T29 xs i).f1.length c3) ∧ w.cell? ⟨(ad.add (i.toNat * 5)).block, (ad.add (i.toNat * 5)).off + 4, none⟩ = some (.slice A4 (rd_T29 xs i).f2.length c4) ∧ (rd_T29 xs i).f0.f2.length ≤ c2 ∧ k88.C w A2 (rd_T29 xs i).f0.f2.length (rd_T29 xs i).f0.f2 ∧ (rd_T29 xs i).f1.length ≤ c3 ∧ k182.C w A3 (rd_T29 xs i).f1.length (rd_T29 xs i).f1 ∧ (rd_T29 xs i).f2.length ≤ c4 ∧ k71.C w A4 (rd_T29 xs i).f2.length (rd_T29 xs i).f2 := by
 obtain ⟨ad, c, e, _, hK, hc0⟩ := Kd.C_get h z29 i h0 h1
 have hc : ∀ j u, c[j]? = some u → w.cell? (ad.add (i.toNat * 5 + j)) = some u := hc0
 obtain ⟨A2, c2, A3, c3, A4, c4, rfl, l2, g2, l3, g3, l4, g4⟩ := k29_open hK
 exact ⟨ad, A2, c2, A3, c3, A4, c4, e, hc 0 _ rfl, by rw [← add_field _ _ 1 (by omega)]; exact hc 1 _ rfl, by rw [← add_field _ _ 2 (by omega)]; exact hc 2 _ rfl, by rw [← add_field _ _ 3 (by omega)]; exact hc 3 _ rfl, by rw [← add_field _ _ 4 (by omega)]; exact hc 4 _ rfl, l2, g2, l3, g3, l4, g4⟩
end Go.Proofs.Ytffnfpnajkgnaaa.PFnExactMoveMachine
