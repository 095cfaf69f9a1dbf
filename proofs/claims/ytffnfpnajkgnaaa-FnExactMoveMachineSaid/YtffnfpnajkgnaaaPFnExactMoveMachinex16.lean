-- WRITTEN by xprint.py, a program of this session's. Not trusted: Lean checks it.
-- packed by pack.py
import Derived.Test.YtffnfpnajkgnaaaPFnExactMoveMachinex0
import Derived.Test.YtffnfpnajkgnaaaPFnExactMoveMachinex15
import Derived.Test.YtffnfpnajkgnaaaTFnExactMoveMachinea
namespace Go.Proofs.Ytffnfpnajkgnaaa.PFnExactMoveMachine
open Go.RowKit Go.Proofs.YtffnfpnajkgnaaaW.PrintWords Go.Proofs.YtffnfpnajkgnaaaW.PrintLast Go.Proofs.YtffnfpnajkgnaaaW.PrintMore Go.Proofs.YtffnfpnajkgnaaaX
attribute [local go_sem] max2_int min2_int max_two min_two max_three min_three max_four min_four   -- for this text's walks alone
set_option maxHeartbeats 8000000
set_option maxRecDepth 100000
set_option linter.unusedVariables false
set_option linter.unusedSimpArgs false

def slices_ContainsFunc__impl_ValidMachine_1.f (k : Nat) (l0 : List (S74)) (l1_0 : List (S41)) : Option (Bool) := (slices_IndexFunc__impl_ValidMachine_1.f k l0 l1_0).bind fun t394 => (some (decide (t394 ≥ 0)))
theorem slices_ContainsFunc__impl_ValidMachine_1.mono : ∀ a0 a1 k, LeO (slices_ContainsFunc__impl_ValidMachine_1.f k a0 a1) (slices_ContainsFunc__impl_ValidMachine_1.f (k + 1) a0 a1) := by
 intro a0 a1 k
 unfold slices_ContainsFunc__impl_ValidMachine_1.f
 repeat' first | (with_reducible first | apply slices_IndexFunc__impl_ValidMachine_1.mono | exact LeO.refl _ | exact LeO.none _ | refine LeO.ite ?_ ?_ | refine LeO.bind ?_ (fun _ => ?_)) | apply slices_IndexFunc__impl_ValidMachine_1.mono | exact LeO.none _ | refine LeO.ite ?_ ?_ | refine LeO.bind ?_ (fun _ => ?_)
theorem slices_ContainsFunc__impl_ValidMachine_1.calls (k : Nat) (A0 : Option Addr) (c0 : Nat) (l0 : List (S74)) (adp1_0 : Addr) (l1_0 : List (S41)) (r : Bool) (w : World) (hr0 : Kd.C k74 w A0 l0.length l0) (hc0 : l0.length ≤ c0) (hr1_0 : Kd.C k41 w (some adp1_0) l1_0.length l1_0) (h : slices_ContainsFunc__impl_ValidMachine_1.f k l0 l1_0 = some r) :
    Calls Try.prog 148 #[.slice A0 l0.length c0, .func (.func 149) #[] #[.pointer (some adp1_0)]] w fun e w' => e = .returned (.bool r) ∧ Below w.heap.size w w' := by
 have HR0 := Aside0.mk hr0
 have HC0 := Aside0.mk hc0
 clear hr0 hc0
 have HR1_0 := Aside0.mk hr1_0
 clear hr1_0
 have HB := Aside0.mk (Below.refl w.heap.size w)
 have H : ((slices_IndexFunc__impl_ValidMachine_1.f k l0 l1_0).bind fun t394 => (some (decide (t394 ≥ 0)))) = some r := h
 clear h
 replace H := zob H
 obtain ⟨t394, A30, H⟩ := H
 replace H : (some (decide (t394 ≥ 0))) = some r := H
 have A3 := Aside0.mk A30
 clear A30
 obtain rfl := Option.some.inj H
 go_enter Try.func148, Try.ntmps148
 go_wp2_with (first | ((with_reducible refine gate_callee (f := 181) rfl ?_); refine goesL_ (some 7) rfl rfl Try.func181 (by kernel_rfl) rfl #[.slice A0 l0.length c0, .func (.func 149) #[] #[.pointer (some adp1_0)]] rfl zm ?_; (with_reducible refine (slices_IndexFunc__impl_ValidMachine_1.calls k _ _ l0 _ l1_0 t394 _ ?side1 ?side2 ?side3 A3.out).mono ?_); (case side1 => repeat (first | exact HR0.out | (with_reducible refine Kd.C_alloc ?_ _) | (with_reducible refine Kd.C_drewN ?_ _) | (with_reducible refine Kd.C_drew ?_))); (case side2 => exact HC0.out); (case side3 => repeat (first | exact HR1_0.out | (with_reducible refine Kd.C_alloc ?_ _) | (with_reducible refine Kd.C_drewN ?_ _) | (with_reducible refine Kd.C_drew ?_))); rintro e w4 ⟨rfl, hb⟩; refine ⟨_, rfl, ?_⟩; have n0_ := zb HB hb; clear HB; have HB := n0_; clear n0_; (try clear hb); (try clear hb2); (try clear hk); (try clear hi)))
 go_ret
 exact ⟨zv, zbo⟩
end Go.Proofs.Ytffnfpnajkgnaaa.PFnExactMoveMachine
