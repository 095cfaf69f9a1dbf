/- The law FnExactNeverHit: for every input the Go function answers true, and each argument reads behind the call as it read before. No condition. (Written by xrow.py, a program of this session's.) -/
import Derived.Test.YtdjhcnepndflmaaRows
import Derived.Test.YtdjhcnepndflmaaQFnExactNeverHit
import Derived.Test.YtdjhcnepndflmaaPureFnExactNeverHit
import Derived.Test.YtdjhcnepndflmaaXHead
import Derived.WalkKit
import Derived.ProofKit
import Derived.OpenShut
import Derived.ShutString
import Derived.ChangeOld
import Derived.Below
import Derived.Carry
namespace Go.Proofs.Ytdjhcnepndflmaa.fnExactNeverHit
open Go.RowKit Go.Proofs.Ytdjhcnepndflmaa.PFnExactNeverHit Go.Proofs.YtdjhcnepndflmaaW.PrintWords Go.Proofs.YtdjhcnepndflmaaW.PrintLast Go.Proofs.YtdjhcnepndflmaaX Go.Proofs.Ytdjhcnepndflmaa.QFnExactNeverHit
open Go.ChangeShapes Go.WideShapes Go.ChangeAt
open Go.ChangeMaps (open_string shut_string)
set_option linter.unusedVariables false
theorem own : ownKnob Try.prog.godebug = none := by kernel_rfl
theorem laidOut : laidOutB Try.prog = true := by kernel_rfl
set_option maxRecDepth 100000 in
theorem lifted (os : Os) (started : os.Started) (H : Type) (enc : TypeId × Value → H) :
    ReturnsInHanded {} Try.checked os 5 .any (Rows.fnExactNeverHitSpec.pre6 enc Try.prog Try.f5 Rows.fnExactNeverHitRow.domain false) (Rows.fnExactNeverHitSpec.post enc Try.prog Try.f5 false true false false) := by
  refine returnsInHanded_of_change (C := Try.checked) own started (by kernel_rfl) Try.func5
    (ChangeSpec.witness6 (enc := enc) (C := Try.checked) false ⟨#[], #[.agg #[.int .i8 0, .int .i8 0, .slice none 0 0]], []⟩ 8 (by kernel_rfl) (by kernel_rfl) (by kernel_rfl) (by kernel_rfl)) ?_
  intro W base args ds gs before hval0 hW hcnd _
  have hval : ∀ (j : Nat) t v, Try.f5.params[j]? = some t → args[j]? = some v → Value.okWide Try.prog W .any base t v := hval0
  have hW' := hW
  obtain ⟨p, q, hA0, hV, rfl, hfz, hnd⟩ := hW
  have hA : DataW.TrodAll enc Try.prog W 0 (fun _ => true) true Try.f5.params.toList args.toList ds p := hA0
  rw [Try.params5] at hA hval
  obtain ⟨v0, vs0, d0, ds0, p0, q0, hargs, rfl, rfl, h0, r0⟩ := trodAll_cons hA
  obtain ⟨rfl, rfl, rfl⟩ := trodAll_nil r0
  obtain rfl : args = #[v0] := by cases args; simp_all
  obtain ⟨rfl, rfl⟩ := trodVars_none hV
  have k0 := h0
  have lt0 : ∀ x ∈ p0, x.block < W.heap.size := by obtain ⟨m, hm⟩ := k0; exact DataW.trod_lt m _ _ _ hm
  obtain ⟨fuel0, hf0⟩ := h0
  obtain ⟨x0, hk0, w0⟩ := opn25 hf0
  obtain ⟨cs0, rfl, _⟩ := okWide_struct Try.underlying25 (hval 0 25 v0 rfl rfl)
  obtain ⟨A0_2, c0_2, hcs0, hl0_2, hC0_2⟩ := k25_open hk0
  obtain rfl : cs0 = #[.int .i8 x0.f0, .int .i8 x0.f1, .slice A0_2 x0.f2.length c0_2] := by cases cs0; exact congrArg Array.mk hcs0
  clear hA0 hval0
  obtain ⟨k, hp⟩ := Pure.FnExactNeverHit x0 w0
  refine (laws_FnExactNeverHit.calls k (x0.f0) (x0.f1) _ _ x0.f2 true W hC0_2 hl0_2 hp).mono fun e W' ⟨he, hd⟩ => ?_
  have bel : Below W.heap.size W W' := hd
  subst he
  exact ⟨_, rfl, _, _, _, [], _, [], hW', trodAll_mk1 (shut_bool Try.underlying4 _), (trodAll_cons_mk (Below.trod laidOut (by kernel_rfl) (of_decide_eq_true (by kernel_rfl)) k0 bel lt0) trodAll_mk0), rfl, bel.frame _, fun h => by cases h⟩
theorem closed : joinedFacts Try.pinned.checked.prog 5 Try.f5 Rows.fnExactNeverHitSpec Rows.fnExactNeverHitRow = true := by
  unfold joinedFacts
  rw [show Try.pinned.checked.prog.mayEnter = true from Go.Proofs.YtdjhcnepndflmaaX.Head.mayEnter_, show Try.pinned.checked.prog.liftsFinal = false from Go.Proofs.YtdjhcnepndflmaaX.Head.lifts_, show Try.pinned.checked.prog.make = some .cut from Go.Proofs.YtdjhcnepndflmaaX.Head.make_]
  kernel_rfl
theorem over : Rows.fnExactNeverHitRow.holds Try.pinned (OpenSpec.ofChange Rows.fnExactNeverHitSpec) :=
  OpenClaim.holds_of_wide 5 Try.f5 rfl rfl rfl rfl rfl rfl rfl ⟨rfl, rfl, rfl, rfl, rfl⟩ rfl rfl rfl rfl rfl (by kernel_rfl) Try.func5 closed
    (of_decide_eq_true (by kernel_rfl)) (by unfold Func.isWrapper; first | (rw [if_pos (by decide +kernel)]; kernel_rfl) | (rw [if_neg (by decide +kernel)]; exact ⟨rfl, rfl⟩))
    (fun os started H enc _ => lifted os started H enc)
theorem proved : Rows.FnExactNeverHitSaid := over
#print axioms proved
end Go.Proofs.Ytdjhcnepndflmaa.fnExactNeverHit
