/- The law FnExactMoveMachine: for every input the Go function answers true, and each argument reads behind the call as it read before. No condition. (Written by xrow.py, a program of this session's.) -/
import Derived.Test.YtffnfpnajkgnaaaRows
import Derived.Test.YtffnfpnajkgnaaaQFnExactMoveMachine
import Derived.Test.YtffnfpnajkgnaaaPureFnExactMoveMachine
import Derived.Test.YtffnfpnajkgnaaaXHead
import Derived.WalkKit
import Derived.ProofKit
import Derived.OpenShut
import Derived.ShutString
import Derived.ChangeOld
import Derived.Below
import Derived.Carry
namespace Go.Proofs.Ytffnfpnajkgnaaa.fnExactMoveMachine
open Go.RowKit Go.Proofs.Ytffnfpnajkgnaaa.PFnExactMoveMachine Go.Proofs.YtffnfpnajkgnaaaW.PrintWords Go.Proofs.YtffnfpnajkgnaaaW.PrintLast Go.Proofs.YtffnfpnajkgnaaaX Go.Proofs.Ytffnfpnajkgnaaa.QFnExactMoveMachine
open Go.ChangeShapes Go.WideShapes Go.ChangeAt
open Go.ChangeMaps (open_string shut_string)
set_option linter.unusedVariables false
theorem own : ownKnob Try.prog.godebug = none := by kernel_rfl
theorem laidOut : laidOutB Try.prog = true := by kernel_rfl
set_option maxRecDepth 100000 in
theorem lifted (os : Os) (started : os.Started) (H : Type) (enc : TypeId × Value → H) :
    ReturnsInHanded {} Try.checked os 5 .any (Rows.fnExactMoveMachineSpec.pre6 enc Try.prog Try.f5 Rows.fnExactMoveMachineRow.domain false) (Rows.fnExactMoveMachineSpec.post enc Try.prog Try.f5 false true false false) := by
  refine returnsInHanded_of_change (C := Try.checked) own started (by kernel_rfl) Try.func5
    (ChangeSpec.witness6 (enc := enc) (C := Try.checked) false ⟨#[], #[.agg #[.int .i8 0, .int .i8 0, .slice none 0 0, .slice none 0 0, .slice none 0 0], .int .i64 0, .int .i64 0], []⟩ 8 (by kernel_rfl) (by kernel_rfl) (by kernel_rfl) (by kernel_rfl)) ?_
  intro W base args ds gs before hval0 hW hcnd _
  have hval : ∀ (j : Nat) t v, Try.f5.params[j]? = some t → args[j]? = some v → Value.okWide Try.prog W .any base t v := hval0
  have hW' := hW
  obtain ⟨p, q, hA0, hV, rfl, hfz, hnd⟩ := hW
  have hA : DataW.TrodAll enc Try.prog W 0 (fun _ => true) true Try.f5.params.toList args.toList ds p := hA0
  rw [Try.params5] at hA hval
  obtain ⟨v0, vs0, d0, ds0, p0, q0, hargs, rfl, rfl, h0, r0⟩ := trodAll_cons hA
  obtain ⟨v1, vs1, d1, ds1, p1, q1, rfl, rfl, rfl, h1, r1⟩ := trodAll_cons r0
  obtain ⟨v2, vs2, d2, ds2, p2, q2, rfl, rfl, rfl, h2, r2⟩ := trodAll_cons r1
  obtain ⟨rfl, rfl, rfl⟩ := trodAll_nil r2
  obtain rfl : args = #[v0, v1, v2] := by cases args; simp_all
  obtain ⟨rfl, rfl⟩ := trodVars_none hV
  have k0 := h0
  have lt0 : ∀ x ∈ p0, x.block < W.heap.size := by obtain ⟨m, hm⟩ := k0; exact DataW.trod_lt m _ _ _ hm
  obtain ⟨fuel0, hf0⟩ := h0
  obtain ⟨x0, hk0, w0⟩ := opn29 hf0
  obtain ⟨cs0, rfl, _⟩ := okWide_struct Try.underlying29 (hval 0 29 v0 rfl rfl)
  obtain ⟨A0_2, c0_2, A0_3, c0_3, A0_4, c0_4, hcs0, hl0_2, hC0_2, hl0_3, hC0_3, hl0_4, hC0_4⟩ := k29_open hk0
  obtain rfl : cs0 = #[.int .i8 x0.f0.f0, .int .i8 x0.f0.f1, .slice A0_2 x0.f0.f2.length c0_2, .slice A0_3 x0.f1.length c0_3, .slice A0_4 x0.f2.length c0_4] := by cases cs0; exact congrArg Array.mk hcs0
  obtain ⟨x1, rfl, rfl, rfl, w1⟩ := open_int Try.underlying2 (hval 1 2 v1 rfl rfl) h1
  obtain ⟨x2, rfl, rfl, rfl, w2⟩ := open_int Try.underlying2 (hval 2 2 v2 rfl rfl) h2
  clear hA0 hval0
  obtain ⟨k, hp⟩ := Pure.FnExactMoveMachine x0 x1 x2 w0 w1 w2
  refine (laws_FnExactMoveMachine.calls k (x0.f0.f0) (x0.f0.f1) _ _ x0.f0.f2 _ _ x0.f1 _ _ x0.f2 x1 x2 true W hC0_2 hl0_2 hC0_3 hl0_3 hC0_4 hl0_4 hp).mono fun e W' ⟨he, hd⟩ => ?_
  have bel : Below W.heap.size W W' := hd
  subst he
  exact ⟨_, rfl, _, _, _, [], _, [], hW', trodAll_mk1 (shut_bool Try.underlying4 _), (trodAll_cons_mk (Below.trod laidOut (by kernel_rfl) (of_decide_eq_true (by kernel_rfl)) k0 bel lt0) (trodAll_cons_mk (shut_int Try.underlying2 w1) (trodAll_cons_mk (shut_int Try.underlying2 w2) trodAll_mk0))), rfl, bel.frame _, fun h => by cases h⟩
theorem closed : joinedFacts Try.pinned.checked.prog 5 Try.f5 Rows.fnExactMoveMachineSpec Rows.fnExactMoveMachineRow = true := by
  unfold joinedFacts
  rw [show Try.pinned.checked.prog.mayEnter = true from Go.Proofs.YtffnfpnajkgnaaaX.Head.mayEnter_, show Try.pinned.checked.prog.liftsFinal = false from Go.Proofs.YtffnfpnajkgnaaaX.Head.lifts_, show Try.pinned.checked.prog.make = some .cut from Go.Proofs.YtffnfpnajkgnaaaX.Head.make_]
  kernel_rfl
theorem over : Rows.fnExactMoveMachineRow.holds Try.pinned (OpenSpec.ofChange Rows.fnExactMoveMachineSpec) :=
  OpenClaim.holds_of_wide 5 Try.f5 rfl rfl rfl rfl rfl rfl rfl ⟨rfl, rfl, rfl, rfl, rfl⟩ rfl rfl rfl rfl rfl (by kernel_rfl) Try.func5 closed
    (of_decide_eq_true (by kernel_rfl)) (by unfold Func.isWrapper; first | (rw [if_pos (by decide +kernel)]; kernel_rfl) | (rw [if_neg (by decide +kernel)]; exact ⟨rfl, rfl⟩))
    (fun os started H enc _ => lifted os started H enc)
theorem proved : Rows.FnExactMoveMachineSaid := over
#print axioms proved
end Go.Proofs.Ytffnfpnajkgnaaa.fnExactMoveMachine
