/- The law FnExactPushesText: for every input the Go function answers true, and each argument reads behind the call as it read before. No condition. (Written by xrow.py, a program of this session's.) -/
import Derived.Test.YtnbjijkpenlpbaaDoorRows
import Derived.Test.YtnbjijkpenlpbaaDoorTie
import Derived.Test.YtnbjijkpenlpbaaDoorCards
import Derived.SevenTiedAt
import Derived.LaidMore
import Derived.LaidSub
import Derived.Lib.LaidTab
import Derived.Stop.Joined
import Derived.Test.YtnbjijkpenlpbaaDoorQFnExactPushesText
import Derived.Test.YtnbjijkpenlpbaaDoorPureFnExactPushesText
import Derived.Test.YtnbjijkpenlpbaaDoorXHead
import Derived.WalkKit
import Derived.ProofKit
import Derived.OpenShut
import Derived.ShutString
import Derived.ChangeOld
import Derived.Below
import Derived.Carry
namespace Go.Proofs.YtnbjijkpenlpbaaDoor.fnExactPushesText
open Go.RowKit Go.Proofs.YtnbjijkpenlpbaaDoor.PFnExactPushesText Go.Proofs.YtnbjijkpenlpbaaDoorW.PrintWords Go.Proofs.YtnbjijkpenlpbaaDoorW.PrintLast Go.Proofs.YtnbjijkpenlpbaaDoorX Go.Proofs.YtnbjijkpenlpbaaDoor.QFnExactPushesText
open Go.ChangeShapes Go.WideShapes Go.ChangeAt
open Go.ChangeMaps (open_string shut_string)
set_option linter.unusedVariables false
theorem own : ownKnob Tryd.prog.godebug = none := by kernel_rfl
theorem laidOut : laidOutB Tryd.prog = true := by kernel_rfl
set_option maxRecDepth 100000 in
theorem door_met (os : Os) (args : Array Value) : laidMetH Tryd.prog Rows.fnExactPushesTextRow.laid ((World.doorLaid Tryd.prog 24 os).forCall (fun _ _ => 0) ⟨#[], args, []⟩).memory :=
  laidMetH_of_parts3 (fuel := 8) (laidMet_of_run' 8 (by kernel_rfl) (by kernel_rfl)) (by kernel_rfl) (by kernel_rfl)
set_option maxRecDepth 100000 in
theorem table {W : World} (h : laidMetH Tryd.prog Rows.fnExactPushesTextRow.laid W) : Go.Lib.TabIs Tryd.prog W "internal/strconv.uint64pow10" .u64 Go.Lib.pow10Tab := by
  have h1 := ((laidMetH_iff.1 h).1).filter (fun x => x.1 == "internal/strconv.uint64pow10")
  have e : ((Rows.fnExactPushesTextRow.laid.filter fun x => x.2.handleName?.isNone).filter fun x => x.1 == "internal/strconv.uint64pow10") = [("internal/strconv.uint64pow10", Go.Lib.tabData .u64 Go.Lib.pow10Tab)] := by kernel_rfl
  rw [e] at h1
  exact Go.Lib.tabIs_of_head (g := 0) (t := 108) (e := 101) (n := 20) (by kernel_rfl) (by kernel_rfl) Tryd.underlying108 Tryd.underlying101 (by kernel_rfl) (by kernel_rfl) h1
set_option maxRecDepth 100000 in
theorem lifted (os : Os) (started : os.Started) (H : Type) (enc : TypeId × Value → H) :
    ReturnsInHanded {} Tryd.checked os 3 .any (fun w args => (Rows.fnExactPushesTextSpec.pre enc Tryd.prog Tryd.f3 [] false w args ∧ laidMetH Tryd.prog Rows.fnExactPushesTextRow.laid w) ∧ sizedMet enc Tryd.prog Tryd.f3 (OpenSpec.ofChange Rows.fnExactPushesTextSpec) false w args)
      (Rows.fnExactPushesTextSpec.post enc Tryd.prog Tryd.f3 false true false false) := by
  refine returnsInHanded_of_change_and (C := Tryd.checked) (X := fun w _ => laidMetH Tryd.prog Rows.fnExactPushesTextRow.laid w) (fun _ _ _ hh h => h.of_heap hh) own started (by kernel_rfl) Tryd.func3
    (ChangeSpec.witness_shaped (enc := enc) (C := Tryd.checked) (os := os) (X := fun w _ => laidMetH Tryd.prog Rows.fnExactPushesTextRow.laid w) false (World.doorLaid Tryd.prog 24 os) #[.slice none 0 0] 8 rfl (World.shaped_of_RefB (by kernel_rfl) (by kernel_rfl)) (by kernel_rfl) (by kernel_rfl) (by kernel_rfl) (door_met os _)) ?_
  intro W base args ds gs before hval0 hW _ _ hL _
  have hval : ∀ (j : Nat) t v, Tryd.f3.params[j]? = some t → args[j]? = some v → Value.okWide Tryd.prog W .any base t v := hval0
  have hW' := hW
  obtain ⟨p, q, hA0, hV, rfl, hfz, hnd⟩ := hW
  have hA : DataW.TrodAll enc Tryd.prog W 0 (fun _ => true) true Tryd.f3.params.toList args.toList ds p := hA0
  rw [Tryd.params3] at hA hval
  obtain ⟨v0, vs0, d0, ds0, p0, q0, hargs, rfl, rfl, h0, r0⟩ := trodAll_cons hA
  obtain ⟨rfl, rfl, rfl⟩ := trodAll_nil r0
  obtain rfl : args = #[v0] := by cases args; simp_all
  obtain ⟨rfl, rfl⟩ := trodVars_none hV
  have k0 := h0
  have lt0 : ∀ x ∈ p0, x.block < W.heap.size := by obtain ⟨m, hm⟩ := k0; exact DataW.trod_lt m _ _ _ hm
  obtain ⟨fuel0, hf0⟩ := h0
  obtain ⟨x0, hk0, w0⟩ := opn22 hf0
  obtain ⟨a0, len0, cap0, rfl⟩ := okWide_slice Tryd.underlying22 (hval 0 22 v0 rfl rfl)
  obtain ⟨A0, c0, hcs0, hl0, hC0⟩ := hk0
  obtain ⟨rfl, rfl, rfl⟩ : a0 = A0 ∧ len0 = x0.length ∧ cap0 = c0 := by have e_ := hcs0; simp [Value.cells] at e_; exact e_
  clear hA0 hval0
  obtain ⟨k, hp⟩ := Pure.FnExactPushesText x0 w0
  refine (laws_FnExactPushesText.calls k _ _ x0 true W hC0 hl0 hp (table hL)).mono fun e W' ⟨he, hd⟩ => ?_
  have bel : Below W.heap.size W W' := hd
  subst he
  exact ⟨_, rfl, _, _, _, [], _, [], hW', trodAll_mk1 (shut_bool Tryd.underlying4 _), (trodAll_cons_mk (Below.trod laidOut (by kernel_rfl) (of_decide_eq_true (by kernel_rfl)) k0 bel lt0) trodAll_mk0), rfl, bel.frame _, fun h => by cases h⟩
theorem closed : joinedFacts Tryd.pinned.checked.prog 3 Tryd.f3 Rows.fnExactPushesTextSpec Rows.fnExactPushesTextRow = true := by
  unfold joinedFacts
  rw [show Tryd.pinned.checked.prog.mayEnter = true from Go.Proofs.YtnbjijkpenlpbaaDoorX.Head.mayEnter_, show Tryd.pinned.checked.prog.liftsFinal = false from Go.Proofs.YtnbjijkpenlpbaaDoorX.Head.lifts_, show Tryd.pinned.checked.prog.make = some .cut from Go.Proofs.YtnbjijkpenlpbaaDoorX.Head.make_]
  kernel_rfl
theorem over : Rows.fnExactPushesTextRow.holds Tryd.pinned (OpenSpec.ofChange Rows.fnExactPushesTextSpec) :=
  OpenClaim.holds_of_wide 3 Tryd.f3 rfl rfl rfl rfl rfl rfl rfl ⟨rfl, rfl, rfl, rfl, rfl⟩ rfl rfl rfl rfl rfl (by kernel_rfl) Tryd.func3 closed
    (of_decide_eq_true (by kernel_rfl)) (by unfold Func.isWrapper; first | (rw [if_pos (by decide +kernel)]; kernel_rfl) | (rw [if_neg (by decide +kernel)]; exact ⟨rfl, rfl⟩))
    (fun os started H enc _ => lifted os started H enc)
theorem proved : Rows.FnExactPushesTextCardSaid :=
  Claim7.holds_tied_plain_at .later [] [.data, .data, .data] true (true, "c32de2c819c6376274a65e3a5f225674d65dec4d479b1ecbf86783c37dd7d983") false
    over (fun _ h => by cases h) (by kernel_rfl) (fun _ h => by cases h) fnExactPushesText_row_tie rfl ⟨rfl, rfl⟩ (by kernel_rfl) rfl
    (fun f fn hf hfn => by
      obtain rfl : f = 3 := Option.some.inj ((show Tryd.prog.funcNamed "loop.example/g01274/laws.FnExactPushesText" = some 3 by kernel_rfl).symm.trans hf) |>.symm
      obtain rfl : fn = Tryd.f3 := (Option.some.inj (Tryd.func3.symm.trans hfn)).symm
      exact ⟨by kernel_rfl, fun j t ht => by
        rw [Tryd.params3] at ht
        have hm : t ∈ [22] := by simpa using Array.mem_of_getElem? ht
        have hall : ([22].all fun u => !Tryd.prog.wantsStandIn u) = true := by kernel_rfl
        exact (show Tryd.prog.wantsStandIn t = false by simpa using List.all_eq_true.1 hall t hm)⟩)
    (by kernel_rfl)
#print axioms proved
end Go.Proofs.YtnbjijkpenlpbaaDoor.fnExactPushesText
