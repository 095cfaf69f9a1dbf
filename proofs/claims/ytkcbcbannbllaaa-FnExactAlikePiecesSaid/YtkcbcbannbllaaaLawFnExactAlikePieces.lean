/- The law FnExactAlikePieces: for every input the Go function answers true, and each argument reads behind the call as it read before. No condition. (Written by xrow.py, a program of this session's.) -/
import Derived.Test.YtkcbcbannbllaaaRows
import Derived.Test.YtkcbcbannbllaaaQFnExactAlikePieces
import Derived.Test.YtkcbcbannbllaaaPureFnExactAlikePieces
import Derived.Test.YtkcbcbannbllaaaXHead
import Derived.WalkKit
import Derived.ProofKit
import Derived.OpenShut
import Derived.ShutString
import Derived.ChangeOld
import Derived.Below
import Derived.Carry
namespace Go.Proofs.Ytkcbcbannbllaaa.fnExactAlikePieces
open Go.RowKit Go.Proofs.Ytkcbcbannbllaaa.PFnExactAlikePieces Go.Proofs.YtkcbcbannbllaaaW.PrintWords Go.Proofs.YtkcbcbannbllaaaW.PrintLast Go.Proofs.YtkcbcbannbllaaaX Go.Proofs.Ytkcbcbannbllaaa.QFnExactAlikePieces
open Go.ChangeShapes Go.WideShapes Go.ChangeAt
open Go.ChangeMaps (open_string shut_string)
set_option linter.unusedVariables false
theorem own : ownKnob Try.prog.godebug = none := by kernel_rfl
theorem laidOut : laidOutB Try.prog = true := by kernel_rfl
set_option maxRecDepth 100000 in
theorem lifted (os : Os) (started : os.Started) (H : Type) (enc : TypeId × Value → H) :
    ReturnsInHanded {} Try.checked os 11 .any (Rows.fnExactAlikePiecesSpec.pre6 enc Try.prog Try.f11 Rows.fnExactAlikePiecesRow.domain false) (Rows.fnExactAlikePiecesSpec.post enc Try.prog Try.f11 false true false false) := by
  refine returnsInHanded_of_change (C := Try.checked) own started (by kernel_rfl) Try.func11
    (ChangeSpec.witness6 (enc := enc) (C := Try.checked) false ⟨#[], #[.agg #[.int .i8 0, .int .i8 0, .int .i8 0, .int .i8 0, .int .i8 0], .agg #[.int .i8 0, .int .i8 0, .int .i8 0, .int .i8 0, .int .i8 0]], []⟩ 8 (by kernel_rfl) (by kernel_rfl) (by kernel_rfl) (by kernel_rfl)) ?_
  intro W base args ds gs before hval0 hW hcnd _
  have hval : ∀ (j : Nat) t v, Try.f11.params[j]? = some t → args[j]? = some v → Value.okWide Try.prog W .any base t v := hval0
  have hW' := hW
  obtain ⟨p, q, hA0, hV, rfl, hfz, hnd⟩ := hW
  have hA : DataW.TrodAll enc Try.prog W 0 (fun _ => true) true Try.f11.params.toList args.toList ds p := hA0
  rw [Try.params11] at hA hval
  obtain ⟨v0, vs0, d0, ds0, p0, q0, hargs, rfl, rfl, h0, r0⟩ := trodAll_cons hA
  obtain ⟨v1, vs1, d1, ds1, p1, q1, rfl, rfl, rfl, h1, r1⟩ := trodAll_cons r0
  obtain ⟨rfl, rfl, rfl⟩ := trodAll_nil r1
  obtain rfl : args = #[v0, v1] := by cases args; simp_all
  obtain ⟨rfl, rfl⟩ := trodVars_none hV
  have k0 := h0
  have lt0 : ∀ x ∈ p0, x.block < W.heap.size := by obtain ⟨m, hm⟩ := k0; exact DataW.trod_lt m _ _ _ hm
  obtain ⟨fuel0, hf0⟩ := h0
  obtain ⟨x0, hk0, w0⟩ := opn30 hf0
  obtain ⟨cs0, rfl, _⟩ := okWide_struct Try.underlying30 (hval 0 30 v0 rfl rfl)
  obtain hcs0 := k30_open hk0
  obtain rfl : cs0 = #[.int .i8 x0.f0.f0, .int .i8 x0.f0.f1, .int .i8 x0.f1, .int .i8 x0.f2, .int .i8 x0.f3] := by cases cs0; exact congrArg Array.mk hcs0
  have k1 := h1
  have lt1 : ∀ x ∈ p1, x.block < W.heap.size := by obtain ⟨m, hm⟩ := k1; exact DataW.trod_lt m _ _ _ hm
  obtain ⟨fuel1, hf1⟩ := h1
  obtain ⟨x1, hk1, w1⟩ := opn30 hf1
  obtain ⟨cs1, rfl, _⟩ := okWide_struct Try.underlying30 (hval 1 30 v1 rfl rfl)
  obtain hcs1 := k30_open hk1
  obtain rfl : cs1 = #[.int .i8 x1.f0.f0, .int .i8 x1.f0.f1, .int .i8 x1.f1, .int .i8 x1.f2, .int .i8 x1.f3] := by cases cs1; exact congrArg Array.mk hcs1
  clear hA0 hval0
  obtain ⟨k, hp⟩ := Pure.FnExactAlikePieces x0 x1 w0 w1
  refine (laws_FnExactAlikePieces.calls k (x0.f0.f0) (x0.f0.f1) (x0.f1) (x0.f2) (x0.f3) (x1.f0.f0) (x1.f0.f1) (x1.f1) (x1.f2) (x1.f3) true W  hp).mono fun e W' ⟨he, hd⟩ => ?_
  have bel : Below W.heap.size W W' := hd
  subst he
  exact ⟨_, rfl, _, _, _, [], _, [], hW', trodAll_mk1 (shut_bool Try.underlying4 _), (trodAll_cons_mk (Below.trod laidOut (by kernel_rfl) (of_decide_eq_true (by kernel_rfl)) k0 bel lt0) (trodAll_cons_mk (Below.trod laidOut (by kernel_rfl) (of_decide_eq_true (by kernel_rfl)) k1 bel lt1) trodAll_mk0)), rfl, bel.frame _, fun h => by cases h⟩
theorem closed : joinedFacts Try.pinned.checked.prog 11 Try.f11 Rows.fnExactAlikePiecesSpec Rows.fnExactAlikePiecesRow = true := by
  unfold joinedFacts
  rw [show Try.pinned.checked.prog.mayEnter = true from Go.Proofs.YtkcbcbannbllaaaX.Head.mayEnter_, show Try.pinned.checked.prog.liftsFinal = false from Go.Proofs.YtkcbcbannbllaaaX.Head.lifts_, show Try.pinned.checked.prog.make = some .cut from Go.Proofs.YtkcbcbannbllaaaX.Head.make_]
  kernel_rfl
theorem over : Rows.fnExactAlikePiecesRow.holds Try.pinned (OpenSpec.ofChange Rows.fnExactAlikePiecesSpec) :=
  OpenClaim.holds_of_wide 11 Try.f11 rfl rfl rfl rfl rfl rfl rfl ⟨rfl, rfl, rfl, rfl, rfl⟩ rfl rfl rfl rfl rfl (by kernel_rfl) Try.func11 closed
    (of_decide_eq_true (by kernel_rfl)) (by unfold Func.isWrapper; first | (rw [if_pos (by decide +kernel)]; kernel_rfl) | (rw [if_neg (by decide +kernel)]; exact ⟨rfl, rfl⟩))
    (fun os started H enc _ => lifted os started H enc)
theorem proved : Rows.FnExactAlikePiecesSaid := over
#print axioms proved
end Go.Proofs.Ytkcbcbannbllaaa.fnExactAlikePieces
