/- The law FnExactBothNetworks: for every input the Go function answers true, and each argument reads behind the call as it read before. No condition. (Written by xrow.py, a program of this session's.) -/
import Derived.Test.YtmpmanfoiocfgaaRows
import Derived.Test.YtmpmanfoiocfgaaQFnExactBothNetworks
import Derived.Test.YtmpmanfoiocfgaaPureFnExactBothNetworks
import Derived.Test.YtmpmanfoiocfgaaXHead
import Derived.WalkKit
import Derived.ProofKit
import Derived.OpenShut
import Derived.ShutString
import Derived.ChangeOld
import Derived.Below
import Derived.Carry
namespace Go.Proofs.Ytmpmanfoiocfgaa.fnExactBothNetworks
open Go.RowKit Go.Proofs.Ytmpmanfoiocfgaa.PFnExactBothNetworks Go.Proofs.YtmpmanfoiocfgaaW.PrintWords Go.Proofs.YtmpmanfoiocfgaaW.PrintLast Go.Proofs.YtmpmanfoiocfgaaX Go.Proofs.Ytmpmanfoiocfgaa.QFnExactBothNetworks
open Go.ChangeShapes Go.WideShapes Go.ChangeAt
open Go.ChangeMaps (open_string shut_string)
set_option linter.unusedVariables false
theorem own : ownKnob Try.prog.godebug = none := by kernel_rfl
theorem laidOut : laidOutB Try.prog = true := by kernel_rfl
set_option maxRecDepth 100000 in
theorem lifted (os : Os) (started : os.Started) (H : Type) (enc : TypeId × Value → H) :
    ReturnsInHanded {} Try.checked os 15 .any (Rows.fnExactBothNetworksSpec.pre6 enc Try.prog Try.f15 Rows.fnExactBothNetworksRow.domain false) (Rows.fnExactBothNetworksSpec.post enc Try.prog Try.f15 false true false false) := by
  refine returnsInHanded_of_change (C := Try.checked) own started (by kernel_rfl) Try.func15
    (ChangeSpec.witness6 (enc := enc) (C := Try.checked) false ⟨#[], #[.agg #[.int .i8 0, .slice none 0 0, .slice none 0 0], .agg #[.int .i8 0, .slice none 0 0, .slice none 0 0]], []⟩ 8 (by kernel_rfl) (by kernel_rfl) (by kernel_rfl) (by kernel_rfl)) ?_
  intro W base args ds gs before hval0 hW hcnd _
  have hval : ∀ (j : Nat) t v, Try.f15.params[j]? = some t → args[j]? = some v → Value.okWide Try.prog W .any base t v := hval0
  have hW' := hW
  obtain ⟨p, q, hA0, hV, rfl, hfz, hnd⟩ := hW
  have hA : DataW.TrodAll enc Try.prog W 0 (fun _ => true) true Try.f15.params.toList args.toList ds p := hA0
  rw [Try.params15] at hA hval
  obtain ⟨v0, vs0, d0, ds0, p0, q0, hargs, rfl, rfl, h0, r0⟩ := trodAll_cons hA
  obtain ⟨v1, vs1, d1, ds1, p1, q1, rfl, rfl, rfl, h1, r1⟩ := trodAll_cons r0
  obtain ⟨rfl, rfl, rfl⟩ := trodAll_nil r1
  obtain rfl : args = #[v0, v1] := by cases args; simp_all
  obtain ⟨rfl, rfl⟩ := trodVars_none hV
  have k0 := h0
  have lt0 : ∀ x ∈ p0, x.block < W.heap.size := by obtain ⟨m, hm⟩ := k0; exact DataW.trod_lt m _ _ _ hm
  obtain ⟨fuel0, hf0⟩ := h0
  obtain ⟨x0, hk0, w0⟩ := opn26 hf0
  obtain ⟨cs0, rfl, _⟩ := okWide_struct Try.underlying26 (hval 0 26 v0 rfl rfl)
  obtain ⟨A0_1, c0_1, A0_2, c0_2, hcs0, hl0_1, hC0_1, hl0_2, hC0_2⟩ := k26_open hk0
  obtain rfl : cs0 = #[.int .i8 x0.f0, .slice A0_1 x0.f1.length c0_1, .slice A0_2 x0.f2.length c0_2] := by cases cs0; exact congrArg Array.mk hcs0
  have k1 := h1
  have lt1 : ∀ x ∈ p1, x.block < W.heap.size := by obtain ⟨m, hm⟩ := k1; exact DataW.trod_lt m _ _ _ hm
  obtain ⟨fuel1, hf1⟩ := h1
  obtain ⟨x1, hk1, w1⟩ := opn26 hf1
  obtain ⟨cs1, rfl, _⟩ := okWide_struct Try.underlying26 (hval 1 26 v1 rfl rfl)
  obtain ⟨A1_1, c1_1, A1_2, c1_2, hcs1, hl1_1, hC1_1, hl1_2, hC1_2⟩ := k26_open hk1
  obtain rfl : cs1 = #[.int .i8 x1.f0, .slice A1_1 x1.f1.length c1_1, .slice A1_2 x1.f2.length c1_2] := by cases cs1; exact congrArg Array.mk hcs1
  clear hA0 hval0
  obtain ⟨k, hp⟩ := Pure.FnExactBothNetworks x0 x1 w0 w1
  refine (laws_FnExactBothNetworks.calls k (x0.f0) _ _ x0.f1 _ _ x0.f2 (x1.f0) _ _ x1.f1 _ _ x1.f2 true W hC0_1 hl0_1 hC0_2 hl0_2 hC1_1 hl1_1 hC1_2 hl1_2 hp).mono fun e W' ⟨he, hd⟩ => ?_
  have bel : Below W.heap.size W W' := hd
  subst he
  exact ⟨_, rfl, _, _, _, [], _, [], hW', trodAll_mk1 (shut_bool Try.underlying4 _), (trodAll_cons_mk (Below.trod laidOut (by kernel_rfl) (of_decide_eq_true (by kernel_rfl)) k0 bel lt0) (trodAll_cons_mk (Below.trod laidOut (by kernel_rfl) (of_decide_eq_true (by kernel_rfl)) k1 bel lt1) trodAll_mk0)), rfl, bel.frame _, fun h => by cases h⟩
theorem closed : joinedFacts Try.pinned.checked.prog 15 Try.f15 Rows.fnExactBothNetworksSpec Rows.fnExactBothNetworksRow = true := by
  unfold joinedFacts
  rw [show Try.pinned.checked.prog.mayEnter = true from Go.Proofs.YtmpmanfoiocfgaaX.Head.mayEnter_, show Try.pinned.checked.prog.liftsFinal = false from Go.Proofs.YtmpmanfoiocfgaaX.Head.lifts_, show Try.pinned.checked.prog.make = some .cut from Go.Proofs.YtmpmanfoiocfgaaX.Head.make_]
  kernel_rfl
theorem over : Rows.fnExactBothNetworksRow.holds Try.pinned (OpenSpec.ofChange Rows.fnExactBothNetworksSpec) :=
  OpenClaim.holds_of_wide 15 Try.f15 rfl rfl rfl rfl rfl rfl rfl ⟨rfl, rfl, rfl, rfl, rfl⟩ rfl rfl rfl rfl rfl (by kernel_rfl) Try.func15 closed
    (of_decide_eq_true (by kernel_rfl)) (by unfold Func.isWrapper; first | (rw [if_pos (by decide +kernel)]; kernel_rfl) | (rw [if_neg (by decide +kernel)]; exact ⟨rfl, rfl⟩))
    (fun os started H enc _ => lifted os started H enc)
theorem proved : Rows.FnExactBothNetworksSaid := over
#print axioms proved
end Go.Proofs.Ytmpmanfoiocfgaa.fnExactBothNetworks
