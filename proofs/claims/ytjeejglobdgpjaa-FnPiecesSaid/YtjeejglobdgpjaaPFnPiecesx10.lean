-- WRITTEN by xprint.py, a program of this session's. Not trusted: Lean checks it.
-- packed by pack.py
import Derived.Test.YtjeejglobdgpjaaPFnPiecesx0
import Derived.Test.YtjeejglobdgpjaaPFnPiecesx1
import Derived.Test.YtjeejglobdgpjaaPFnPiecesx2
import Derived.Test.YtjeejglobdgpjaaPFnPiecesx3
import Derived.Test.YtjeejglobdgpjaaPFnPiecesx5
import Derived.Test.YtjeejglobdgpjaaPFnPiecesx6
import Derived.Test.YtjeejglobdgpjaaPFnPiecesx7
import Derived.Test.YtjeejglobdgpjaaPFnPiecesx8
import Derived.Test.YtjeejglobdgpjaaPFnPiecesx9
import Derived.Test.YtjeejglobdgpjaaTFnPiecesa
namespace Go.Proofs.Ytjeejglobdgpjaa.PFnPieces
open Go.RowKit Go.Proofs.YtjeejglobdgpjaaW.PrintWords Go.Proofs.YtjeejglobdgpjaaW.PrintLast Go.Proofs.YtjeejglobdgpjaaW.PrintMore Go.Proofs.YtjeejglobdgpjaaX
attribute [local go_sem] max2_int min2_int max_two min_two max_three min_three max_four min_four   -- for this text's walks alone
set_option maxHeartbeats 64000000
set_option maxRecDepth 100000
set_option linter.unusedVariables false
set_option linter.unusedSimpArgs false

attribute [local go_sem high] eqA28 eqA36
mutual
def laws_FnPieces.j0 : Nat → List Int → List Int → Option (Bool)
  | 0, _, _ => none
  | k + 1, x0, x1 => (spec_A2Piece.f x0).bind fun bt291 => ((laws_a2At.f x1 0 20).bind fun t297 => ((impl_TurnPiece.f bt291.1 bt291.2.1 bt291.2.2.1 bt291.2.2.2.1 bt291.2.2.2.2 (wrap64 (t297 - 10))).bind fun bt298 => ((spec_TurnPiece.f bt291.1 bt291.2.1 bt291.2.2.1 bt291.2.2.2.1 bt291.2.2.2.2 (wrap64 (t297 - 10))).bind fun bt305 => ((impl_TurnPiece.f bt298.1 bt298.2.1 bt298.2.2.1 bt298.2.2.2.1 bt298.2.2.2.2.1 (wrap64 (-(wrap64 (t297 - 10))))).bind fun bt312 => ((impl_TurnPiece.f bt291.1 bt291.2.1 bt291.2.2.1 bt291.2.2.2.1 bt291.2.2.2.2 4).bind fun bt319 => (if bt298.2.2.2.2.2 = bt305.2.2.2.2.2 then (if bt298.2.2.2.2.2 = 0 then (if ((!(bt298.1 == bt305.1) || (!(bt298.2.1 == bt305.2.1))) || (!(bt298.2.2.1 == bt305.2.2.1) || (!(bt298.2.2.2.1 == bt305.2.2.2.1) || (!(bt298.2.2.2.2.1 == bt305.2.2.2.2.1))))) = true then (none) else (if bt312.2.2.2.2.2 = 0 then (if ((!(bt312.1 == bt291.1) || (!(bt312.2.1 == bt291.2.1))) || (!(bt312.2.2.1 == bt291.2.2.1) || (!(bt312.2.2.2.1 == bt291.2.2.2.1) || (!(bt312.2.2.2.2.1 == bt291.2.2.2.2))))) = true then (none) else (if bt319.2.2.2.2.2 = 0 then (if ((!(bt319.1 == bt291.1) || (!(bt319.2.1 == bt291.2.1))) || (!(bt319.2.2.1 == bt291.2.2.1) || (!(bt319.2.2.2.1 == bt291.2.2.2.1) || (!(bt319.2.2.2.2.1 == bt291.2.2.2.2))))) = true then (none) else ((impl_ValidPiece.f bt291.1 bt291.2.1 bt291.2.2.1 bt291.2.2.2.1 bt291.2.2.2.2).bind fun t326 => (if t326 = true then ((impl_ValidPiece.f bt305.1 bt305.2.1 bt305.2.2.1 bt305.2.2.2.1 bt305.2.2.2.2.1).bind fun t327 => (if t327 = true then (laws_FnPieces.j1 k (wrap64 (t297 - 10)) bt291.1 bt291.2.1 bt291.2.2.1 bt291.2.2.2.1 bt291.2.2.2.2 bt305.1 bt305.2.1 bt305.2.2.1 bt305.2.2.2.1 bt305.2.2.2.2.1) else (none))) else (none)))) else (none))) else (none))) else (none)) else (none)))))))
def laws_FnPieces.j1 : Nat → Int → Int → Int → Int → Int → Int → Int → Int → Int → Int → Int → Option (Bool)
  | 0, _, _, _, _, _, _, _, _, _, _, _ => none
  | k + 1, x6, x297000, x297001, x297002, x297003, x297004, x312000, x312001, x312002, x312003, x312004 => laws_FnPieces.l0 k x6 true 0 x297000 x297001 x297002 x297003 x297004 x312000 x312001 x312002 x312003 x312004
def laws_FnPieces.l0 : Nat → Int → Bool → Int → Int → Int → Int → Int → Int → Int → Int → Int → Int → Int → Option (Bool)
  | 0, _, _, _, _, _, _, _, _, _, _, _, _, _ => none
  | k + 1, x6, x15, x16, x297000, x297001, x297002, x297003, x297004, x312000, x312001, x312002, x312003, x312004 => if x16 < 4 then (laws_FnPieces.j4 k x6 x15 x16 x297000 x297001 x297002 x297003 x297004 x312000 x312001 x312002 x312003 x312004) else ((impl_AlikePieces.f k x297000 x297001 x297002 x297003 x297004 x312000 x312001 x312002 x312003 x312004).bind fun bt328 => (if bt328.2 = 0 then (some (bt328.1 == x15)) else (none)))
def laws_FnPieces.j4 : Nat → Int → Bool → Int → Int → Int → Int → Int → Int → Int → Int → Int → Int → Int → Option (Bool)
  | 0, _, _, _, _, _, _, _, _, _, _, _, _, _ => none
  | k + 1, x6, x15, x16, x297000, x297001, x297002, x297003, x297004, x312000, x312001, x312002, x312003, x312004 => (impl_FallsFrom.f k x297000 x297001 x297002 x297003 x297004 x16).bind fun bt330 => ((spec_FallsFrom.f k x297000 x297001 x297002 x297003 x297004 x16).bind fun bt332 => ((impl_FallsFrom.f k x312000 x312001 x312002 x312003 x312004 (Int.tmod (wrap64 ((wrap64 (x16 + x6)) + 12)) 4)).bind fun bt334 => ((impl_HitsFrom.f k x297000 x297001 x297002 x297003 x297004 x16).bind fun bt336 => ((spec_HitsFrom.f k x297000 x297001 x297002 x297003 x297004 x16).bind fun bt342 => ((impl_HitsFrom.f k x312000 x312001 x312002 x312003 x312004 (Int.tmod (wrap64 ((wrap64 (x16 + x6)) + 12)) 4)).bind fun bt348 => ((spec_HitsFrom.f k x312000 x312001 x312002 x312003 x312004 x16).bind fun bt354 => ((spec_FallsFrom.f k x312000 x312001 x312002 x312003 x312004 x16).bind fun bt360 => ((impl_OppositeSide.f x16).bind fun bt362 => (if bt330.2 = bt332.2 then (if bt330.2 = 0 then (if (bt330.1 != bt332.1) = true then (none) else (if bt334.2 = 0 then (if (bt334.1 != bt332.1) = true then (none) else (if bt336.2.2.2.2 = bt342.2.2.2.2 then (if bt336.2.2.2.2 = 0 then (if (!(bt336.1 == bt342.1) || (!(bt336.2.1 == bt342.2.1) || (!(bt336.2.2.1 == bt342.2.2.1) || (!(bt336.2.2.2.1 == bt342.2.2.2.1))))) = true then (none) else (if bt348.2.2.2.2 = 0 then (if 0 ≤ x16 then (if x16 < 4 then (if rdOf false [bt342.1, bt342.2.1, bt342.2.2.1, bt342.2.2.2.1] x16 = true then (none) else (if bt354.2.2.2.2 = 0 then (if bt360.2 = 0 then (if bt362.2 = 0 then (if bt362.1 = (Int.tmod (wrap64 (x16 + 2)) 4) then (laws_FnPieces.j5 k x6 x15 x16 bt332.1 bt360.1 x297000 x297001 x297002 x297003 x297004 x312000 x312001 x312002 x312003 x312004 bt342.1 bt342.2.1 bt342.2.2.1 bt342.2.2.2.1 bt348.1 bt348.2.1 bt348.2.2.1 bt348.2.2.2.1 bt354.1 bt354.2.1 bt354.2.2.1 bt354.2.2.2.1) else (none)) else (none)) else (none)) else (none))) else (none)) else (none)) else (none))) else (none)) else (none))) else (none))) else (none)) else (none))))))))))
def laws_FnPieces.j5 : Nat → Int → Bool → Int → Bool → Bool → Int → Int → Int → Int → Int → Int → Int → Int → Int → Int → Bool → Bool → Bool → Bool → Bool → Bool → Bool → Bool → Bool → Bool → Bool → Bool → Option (Bool)
  | 0, _, _, _, _, _, _, _, _, _, _, _, _, _, _, _, _, _, _, _, _, _, _, _, _, _, _, _ => none
  | k + 1, x6, x15, x16, x20, x32, x297000, x297001, x297002, x297003, x297004, x312000, x312001, x312002, x312003, x312004, x348000, x348001, x348002, x348003, x354000, x354001, x354002, x354003, x360000, x360001, x360002, x360003 => laws_FnPieces.l1 k x6 x15 x16 x20 x32 0 x297000 x297001 x297002 x297003 x297004 x312000 x312001 x312002 x312003 x312004 x348000 x348001 x348002 x348003 x354000 x354001 x354002 x354003 x360000 x360001 x360002 x360003
def laws_FnPieces.l1 : Nat → Int → Bool → Int → Bool → Bool → Int → Int → Int → Int → Int → Int → Int → Int → Int → Int → Int → Bool → Bool → Bool → Bool → Bool → Bool → Bool → Bool → Bool → Bool → Bool → Bool → Option (Bool)
  | 0, _, _, _, _, _, _, _, _, _, _, _, _, _, _, _, _, _, _, _, _, _, _, _, _, _, _, _, _ => none
  | k + 1, x6, x15, x16, x20, x32, x36, x297000, x297001, x297002, x297003, x297004, x312000, x312001, x312002, x312003, x312004, x348000, x348001, x348002, x348003, x354000, x354001, x354002, x354003, x360000, x360001, x360002, x360003 => if x36 < 4 then (if 0 ≤ (Int.tmod (wrap64 ((wrap64 (x36 + x6)) + 12)) 4) then (if (Int.tmod (wrap64 ((wrap64 (x36 + x6)) + 12)) 4) < 4 then (if 0 ≤ x36 then (if ((rdOf false [x354000, x354001, x354002, x354003] (Int.tmod (wrap64 ((wrap64 (x36 + x6)) + 12)) 4)) != (rdOf false [x348000, x348001, x348002, x348003] x36)) = true then (none) else (if rdOf false [x348000, x348001, x348002, x348003] x36 = true then (if x20 = true then (laws_FnPieces.l1 k x6 x15 x16 x20 x32 (wrap64 (x36 + 1)) x297000 x297001 x297002 x297003 x297004 x312000 x312001 x312002 x312003 x312004 x348000 x348001 x348002 x348003 x354000 x354001 x354002 x354003 x360000 x360001 x360002 x360003) else (none)) else (laws_FnPieces.l1 k x6 x15 x16 x20 x32 (wrap64 (x36 + 1)) x297000 x297001 x297002 x297003 x297004 x312000 x312001 x312002 x312003 x312004 x348000 x348001 x348002 x348003 x354000 x354001 x354002 x354003 x360000 x360001 x360002 x360003))) else (none)) else (none)) else (none)) else (if x15 = true then (if (x360000 == x348000 && (x360001 == x348001 && (x360002 == x348002 && (x360003 == x348003)))) = true then (laws_FnPieces.l0 k x6 (x32 == x20) (wrap64 (x16 + 1)) x297000 x297001 x297002 x297003 x297004 x312000 x312001 x312002 x312003 x312004) else (laws_FnPieces.l0 k x6 false (wrap64 (x16 + 1)) x297000 x297001 x297002 x297003 x297004 x312000 x312001 x312002 x312003 x312004)) else (laws_FnPieces.l0 k x6 false (wrap64 (x16 + 1)) x297000 x297001 x297002 x297003 x297004 x312000 x312001 x312002 x312003 x312004))
end
def laws_FnPieces.f (k : Nat) (l0 : List Int) (l1 : List Int) : Option (Bool) := (laws_a2Long.f l0 l1).bind fun t290 => (if t290 = true then (some true) else (laws_FnPieces.j0 k l0 l1))
theorem laws_FnPieces.mono_l : ∀ k, (∀ y0 y1, LeO (laws_FnPieces.j0 k y0 y1) (laws_FnPieces.j0 (k + 1) y0 y1)) ∧ (∀ y0 y1 y2 y3 y4 y5 y6 y7 y8 y9 y10, LeO (laws_FnPieces.j1 k y0 y1 y2 y3 y4 y5 y6 y7 y8 y9 y10) (laws_FnPieces.j1 (k + 1) y0 y1 y2 y3 y4 y5 y6 y7 y8 y9 y10)) ∧ (∀ y0 y1 y2 y3 y4 y5 y6 y7 y8 y9 y10 y11 y12, LeO (laws_FnPieces.l0 k y0 y1 y2 y3 y4 y5 y6 y7 y8 y9 y10 y11 y12) (laws_FnPieces.l0 (k + 1) y0 y1 y2 y3 y4 y5 y6 y7 y8 y9 y10 y11 y12)) ∧ (∀ y0 y1 y2 y3 y4 y5 y6 y7 y8 y9 y10 y11 y12, LeO (laws_FnPieces.j4 k y0 y1 y2 y3 y4 y5 y6 y7 y8 y9 y10 y11 y12) (laws_FnPieces.j4 (k + 1) y0 y1 y2 y3 y4 y5 y6 y7 y8 y9 y10 y11 y12)) ∧ (∀ y0 y1 y2 y3 y4 y5 y6 y7 y8 y9 y10 y11 y12 y13 y14 y15 y16 y17 y18 y19 y20 y21 y22 y23 y24 y25 y26, LeO (laws_FnPieces.j5 k y0 y1 y2 y3 y4 y5 y6 y7 y8 y9 y10 y11 y12 y13 y14 y15 y16 y17 y18 y19 y20 y21 y22 y23 y24 y25 y26) (laws_FnPieces.j5 (k + 1) y0 y1 y2 y3 y4 y5 y6 y7 y8 y9 y10 y11 y12 y13 y14 y15 y16 y17 y18 y19 y20 y21 y22 y23 y24 y25 y26)) ∧ (∀ y0 y1 y2 y3 y4 y5 y6 y7 y8 y9 y10 y11 y12 y13 y14 y15 y16 y17 y18 y19 y20 y21 y22 y23 y24 y25 y26 y27, LeO (laws_FnPieces.l1 k y0 y1 y2 y3 y4 y5 y6 y7 y8 y9 y10 y11 y12 y13 y14 y15 y16 y17 y18 y19 y20 y21 y22 y23 y24 y25 y26 y27) (laws_FnPieces.l1 (k + 1) y0 y1 y2 y3 y4 y5 y6 y7 y8 y9 y10 y11 y12 y13 y14 y15 y16 y17 y18 y19 y20 y21 y22 y23 y24 y25 y26 y27))
  | 0 => ⟨fun _ _ r h => by simp [laws_FnPieces.j0] at h, fun _ _ _ _ _ _ _ _ _ _ _ r h => by simp [laws_FnPieces.j1] at h, fun _ _ _ _ _ _ _ _ _ _ _ _ _ r h => by simp [laws_FnPieces.l0] at h, fun _ _ _ _ _ _ _ _ _ _ _ _ _ r h => by simp [laws_FnPieces.j4] at h, fun _ _ _ _ _ _ _ _ _ _ _ _ _ _ _ _ _ _ _ _ _ _ _ _ _ _ _ r h => by simp [laws_FnPieces.j5] at h, fun _ _ _ _ _ _ _ _ _ _ _ _ _ _ _ _ _ _ _ _ _ _ _ _ _ _ _ _ r h => by simp [laws_FnPieces.l1] at h⟩
  | k + 1 => by
    obtain ⟨ih0, ih1, ih2, ih3, ih4, ih5⟩ := laws_FnPieces.mono_l k
    refine ⟨?_, ?_, ?_, ?_, ?_, ?_⟩
    · intro y0 y1
      unfold laws_FnPieces.j0
      repeat' first | (with_reducible first | apply ih0 | apply ih1 | apply ih2 | apply ih3 | apply ih4 | apply ih5 | apply impl_AlikePieces.mono | apply impl_FallsFrom.mono | apply impl_HitsFrom.mono | apply spec_FallsFrom.mono | apply spec_HitsFrom.mono | exact LeO.refl _ | exact LeO.none _ | refine LeO.ite ?_ ?_ | refine LeO.bind ?_ (fun _ => ?_)) | apply ih0 | apply ih1 | apply ih2 | apply ih3 | apply ih4 | apply ih5 | apply impl_AlikePieces.mono | apply impl_FallsFrom.mono | apply impl_HitsFrom.mono | apply spec_FallsFrom.mono | apply spec_HitsFrom.mono | exact LeO.none _ | refine LeO.ite ?_ ?_ | refine LeO.bind ?_ (fun _ => ?_)
    · intro y0 y1 y2 y3 y4 y5 y6 y7 y8 y9 y10
      unfold laws_FnPieces.j1
      repeat' first | (with_reducible first | apply ih0 | apply ih1 | apply ih2 | apply ih3 | apply ih4 | apply ih5 | apply impl_AlikePieces.mono | apply impl_FallsFrom.mono | apply impl_HitsFrom.mono | apply spec_FallsFrom.mono | apply spec_HitsFrom.mono | exact LeO.refl _ | exact LeO.none _ | refine LeO.ite ?_ ?_ | refine LeO.bind ?_ (fun _ => ?_)) | apply ih0 | apply ih1 | apply ih2 | apply ih3 | apply ih4 | apply ih5 | apply impl_AlikePieces.mono | apply impl_FallsFrom.mono | apply impl_HitsFrom.mono | apply spec_FallsFrom.mono | apply spec_HitsFrom.mono | exact LeO.none _ | refine LeO.ite ?_ ?_ | refine LeO.bind ?_ (fun _ => ?_)
    · intro y0 y1 y2 y3 y4 y5 y6 y7 y8 y9 y10 y11 y12
      unfold laws_FnPieces.l0
      repeat' first | (with_reducible first | apply ih0 | apply ih1 | apply ih2 | apply ih3 | apply ih4 | apply ih5 | apply impl_AlikePieces.mono | apply impl_FallsFrom.mono | apply impl_HitsFrom.mono | apply spec_FallsFrom.mono | apply spec_HitsFrom.mono | exact LeO.refl _ | exact LeO.none _ | refine LeO.ite ?_ ?_ | refine LeO.bind ?_ (fun _ => ?_)) | apply ih0 | apply ih1 | apply ih2 | apply ih3 | apply ih4 | apply ih5 | apply impl_AlikePieces.mono | apply impl_FallsFrom.mono | apply impl_HitsFrom.mono | apply spec_FallsFrom.mono | apply spec_HitsFrom.mono | exact LeO.none _ | refine LeO.ite ?_ ?_ | refine LeO.bind ?_ (fun _ => ?_)
    · intro y0 y1 y2 y3 y4 y5 y6 y7 y8 y9 y10 y11 y12
      unfold laws_FnPieces.j4
      repeat' first | (with_reducible first | apply ih0 | apply ih1 | apply ih2 | apply ih3 | apply ih4 | apply ih5 | apply impl_AlikePieces.mono | apply impl_FallsFrom.mono | apply impl_HitsFrom.mono | apply spec_FallsFrom.mono | apply spec_HitsFrom.mono | exact LeO.refl _ | exact LeO.none _ | refine LeO.ite ?_ ?_ | refine LeO.bind ?_ (fun _ => ?_)) | apply ih0 | apply ih1 | apply ih2 | apply ih3 | apply ih4 | apply ih5 | apply impl_AlikePieces.mono | apply impl_FallsFrom.mono | apply impl_HitsFrom.mono | apply spec_FallsFrom.mono | apply spec_HitsFrom.mono | exact LeO.none _ | refine LeO.ite ?_ ?_ | refine LeO.bind ?_ (fun _ => ?_)
    · intro y0 y1 y2 y3 y4 y5 y6 y7 y8 y9 y10 y11 y12 y13 y14 y15 y16 y17 y18 y19 y20 y21 y22 y23 y24 y25 y26
      unfold laws_FnPieces.j5
      repeat' first | (with_reducible first | apply ih0 | apply ih1 | apply ih2 | apply ih3 | apply ih4 | apply ih5 | apply impl_AlikePieces.mono | apply impl_FallsFrom.mono | apply impl_HitsFrom.mono | apply spec_FallsFrom.mono | apply spec_HitsFrom.mono | exact LeO.refl _ | exact LeO.none _ | refine LeO.ite ?_ ?_ | refine LeO.bind ?_ (fun _ => ?_)) | apply ih0 | apply ih1 | apply ih2 | apply ih3 | apply ih4 | apply ih5 | apply impl_AlikePieces.mono | apply impl_FallsFrom.mono | apply impl_HitsFrom.mono | apply spec_FallsFrom.mono | apply spec_HitsFrom.mono | exact LeO.none _ | refine LeO.ite ?_ ?_ | refine LeO.bind ?_ (fun _ => ?_)
    · intro y0 y1 y2 y3 y4 y5 y6 y7 y8 y9 y10 y11 y12 y13 y14 y15 y16 y17 y18 y19 y20 y21 y22 y23 y24 y25 y26 y27
      unfold laws_FnPieces.l1
      repeat' first | (with_reducible first | apply ih0 | apply ih1 | apply ih2 | apply ih3 | apply ih4 | apply ih5 | apply impl_AlikePieces.mono | apply impl_FallsFrom.mono | apply impl_HitsFrom.mono | apply spec_FallsFrom.mono | apply spec_HitsFrom.mono | exact LeO.refl _ | exact LeO.none _ | refine LeO.ite ?_ ?_ | refine LeO.bind ?_ (fun _ => ?_)) | apply ih0 | apply ih1 | apply ih2 | apply ih3 | apply ih4 | apply ih5 | apply impl_AlikePieces.mono | apply impl_FallsFrom.mono | apply impl_HitsFrom.mono | apply spec_FallsFrom.mono | apply spec_HitsFrom.mono | exact LeO.none _ | refine LeO.ite ?_ ?_ | refine LeO.bind ?_ (fun _ => ?_)
theorem laws_FnPieces.mono : ∀ a0 a1 k, LeO (laws_FnPieces.f k a0 a1) (laws_FnPieces.f (k + 1) a0 a1) := by
 intro a0 a1 k
 obtain ⟨ih0, ih1, ih2, ih3, ih4, ih5⟩ := laws_FnPieces.mono_l k
 unfold laws_FnPieces.f
 repeat' first | (with_reducible first | apply ih0 | apply ih1 | apply ih2 | apply ih3 | apply ih4 | apply ih5 | apply impl_AlikePieces.mono | apply impl_FallsFrom.mono | apply impl_HitsFrom.mono | apply spec_FallsFrom.mono | apply spec_HitsFrom.mono | exact LeO.refl _ | exact LeO.none _ | refine LeO.ite ?_ ?_ | refine LeO.bind ?_ (fun _ => ?_)) | apply ih0 | apply ih1 | apply ih2 | apply ih3 | apply ih4 | apply ih5 | apply impl_AlikePieces.mono | apply impl_FallsFrom.mono | apply impl_HitsFrom.mono | apply spec_FallsFrom.mono | apply spec_HitsFrom.mono | exact LeO.none _ | refine LeO.ite ?_ ?_ | refine LeO.bind ?_ (fun _ => ?_)
theorem laws_FnPieces.calls (k : Nat) (A0 : Option Addr) (c0 : Nat) (l0 : List Int) (A1 : Option Addr) (c1 : Nat) (l1 : List Int) (r : Bool) (w : World) (hr0 : Kd.C (Kd.int .u8) w A0 l0.length l0) (hc0 : l0.length ≤ c0) (hr1 : Kd.C (Kd.int .u8) w A1 l1.length l1) (hc1 : l1.length ≤ c1) (h : laws_FnPieces.f k l0 l1 = some r) :
    Calls Try.prog 3 #[.slice A0 l0.length c0, .slice A1 l1.length c1] w fun e w' => e = .returned (.bool r) ∧ Below w.heap.size w w' := by
 have hu28 := Try.underlying28
 have hu36 := Try.underlying36
 have HR0 := Aside0.mk hr0
 have HC0 := Aside0.mk hc0
 clear hr0 hc0
 have HR1 := Aside0.mk hr1
 have HC1 := Aside0.mk hc1
 clear hr1 hc1
 have HB := Aside0.mk (Below.refl w.heap.size w)
 have H : ((laws_a2Long.f l0 l1).bind fun t290 => (if t290 = true then (some true) else (laws_FnPieces.j0 k l0 l1))) = some r := h
 clear h
 replace H := zob H
 obtain ⟨t290, A30, H⟩ := H
 replace H : (if t290 = true then (some true) else (laws_FnPieces.j0 k l0 l1)) = some r := H
 have A3 := Aside0.mk A30
 clear A30
 have HC4 := Aside0.mk H
 clear H
 go_enter Try.func3, Try.ntmps3
 go_upto_if 41 with (first | (go_at_call 4; (with_reducible refine (laws_a2Long.calls _ _ l0 _ _ l1 t290 _ ?side1 ?side2 ?side3 ?side4 A3.out).mono ?_); (case side1 => repeat (first | exact HR0.out | (with_reducible refine Kd.C_alloc ?_ _) | (with_reducible refine Kd.C_drewN ?_ _) | (with_reducible refine Kd.C_drew ?_))); (case side2 => exact HC0.out); (case side3 => repeat (first | exact HR1.out | (with_reducible refine Kd.C_alloc ?_ _) | (with_reducible refine Kd.C_drewN ?_ _) | (with_reducible refine Kd.C_drew ?_))); (case side4 => exact HC1.out); rintro e w' ⟨rfl, ⟨nd, rfl⟩⟩; (try first | exact ⟨rfl, _, World.drewN_drewN _ _ _⟩ | exact ⟨rfl, _, Eq.trans (World.drewN_drewN _ _ _) (congrArg (World.drewN _) (Nat.add_assoc _ _ _))⟩)))
 repeat (go_quiet (first | (go_at_call 4; (with_reducible refine (laws_a2Long.calls _ _ l0 _ _ l1 t290 _ ?side1 ?side2 ?side3 ?side4 A3.out).mono ?_); (case side1 => repeat (first | exact HR0.out | (with_reducible refine Kd.C_alloc ?_ _) | (with_reducible refine Kd.C_drewN ?_ _) | (with_reducible refine Kd.C_drew ?_))); (case side2 => exact HC0.out); (case side3 => repeat (first | exact HR1.out | (with_reducible refine Kd.C_alloc ?_ _) | (with_reducible refine Kd.C_drewN ?_ _) | (with_reducible refine Kd.C_drew ?_))); (case side4 => exact HC1.out); rintro e w' ⟨rfl, ⟨nd, rfl⟩⟩; (try first | exact ⟨rfl, _, World.drewN_drewN _ _ _⟩ | exact ⟨rfl, _, Eq.trans (World.drewN_drewN _ _ _) (congrArg (World.drewN _) (Nat.add_assoc _ _ _))⟩))); go_upto_if 41 with (first | (go_at_call 4; (with_reducible refine (laws_a2Long.calls _ _ l0 _ _ l1 t290 _ ?side1 ?side2 ?side3 ?side4 A3.out).mono ?_); (case side1 => repeat (first | exact HR0.out | (with_reducible refine Kd.C_alloc ?_ _) | (with_reducible refine Kd.C_drewN ?_ _) | (with_reducible refine Kd.C_drew ?_))); (case side2 => exact HC0.out); (case side3 => repeat (first | exact HR1.out | (with_reducible refine Kd.C_alloc ?_ _) | (with_reducible refine Kd.C_drewN ?_ _) | (with_reducible refine Kd.C_drew ?_))); (case side4 => exact HC1.out); rintro e w' ⟨rfl, ⟨nd, rfl⟩⟩; (try first | exact ⟨rfl, _, World.drewN_drewN _ _ _⟩ | exact ⟨rfl, _, Eq.trans (World.drewN_drewN _ _ _) (congrArg (World.drewN _) (Nat.add_assoc _ _ _))⟩))))
 (try simp only [Act.put, List.setIfInBounds_toArray, List.set_cons_zero, List.set_cons_succ])
 go_cut [] (fun wc => ∃ (kq : Nat), Aside0 (laws_FnPieces.j0 kq l0 l1 = some r) ∧ Aside0 (kq ≤ k) ∧ Aside0 (Below w.heap.size w wc))
 case first =>
  as_aux_lemma =>
   have H := HC4.out
   clear HC4
   by_cases c5 : t290 = true
   rotate_left
   ·replace c5 := Bool.eq_false_iff.mpr c5
    subst c5
    have H1 : (laws_FnPieces.j0 k l0 l1) = some r := by rw [if_neg (show ¬ (false = true) by decide)] at H; exact H
    clear H
    have H := H1
    clear H1
    have H' := Aside0.mk H
    clear H
    go_wp2
    repeat (go_quiet (fail); try go_wp2)
    go_meet
    case rel => exact ⟨_, H', ⟨by first | omega | exact Nat.le_refl _⟩, zl HB⟩
   subst c5
   have H1 : (some true) = some r := by rw [if_pos rfl] at H; exact H
   clear H
   have H := H1
   clear H1
   obtain rfl := Option.some.inj H
   go_wp2
   repeat (go_quiet (fail); try go_wp2)
   go_ret
   exact ⟨zv, zbo⟩
 clear HC4
 try clear c1
 try clear p2
 try clear c3
 try clear c5
 obtain ⟨kq, HA, HJ3, HB⟩ := hcut
 cases kq with
 | zero => exact absurd HA.out (by simp [laws_FnPieces.j0])
 | succ kj3 => ?_
 have H := HA.out
 clear HA
 simp only [laws_FnPieces.j0] at H
 replace H := zob H
 obtain ⟨⟨t291, t292, t293, t294, t295⟩, A60, H⟩ := H
 replace H : ((laws_a2At.f l1 0 20).bind fun t297 => ((impl_TurnPiece.f t291 t292 t293 t294 t295 (wrap64 (t297 - 10))).bind fun bt298 => ((spec_TurnPiece.f t291 t292 t293 t294 t295 (wrap64 (t297 - 10))).bind fun bt305 => ((impl_TurnPiece.f bt298.1 bt298.2.1 bt298.2.2.1 bt298.2.2.2.1 bt298.2.2.2.2.1 (wrap64 (-(wrap64 (t297 - 10))))).bind fun bt312 => ((impl_TurnPiece.f t291 t292 t293 t294 t295 4).bind fun bt319 => (if bt298.2.2.2.2.2 = bt305.2.2.2.2.2 then (if bt298.2.2.2.2.2 = 0 then (if ((!(bt298.1 == bt305.1) || (!(bt298.2.1 == bt305.2.1))) || (!(bt298.2.2.1 == bt305.2.2.1) || (!(bt298.2.2.2.1 == bt305.2.2.2.1) || (!(bt298.2.2.2.2.1 == bt305.2.2.2.2.1))))) = true then (none) else (if bt312.2.2.2.2.2 = 0 then (if ((!(bt312.1 == t291) || (!(bt312.2.1 == t292))) || (!(bt312.2.2.1 == t293) || (!(bt312.2.2.2.1 == t294) || (!(bt312.2.2.2.2.1 == t295))))) = true then (none) else (if bt319.2.2.2.2.2 = 0 then (if ((!(bt319.1 == t291) || (!(bt319.2.1 == t292))) || (!(bt319.2.2.1 == t293) || (!(bt319.2.2.2.1 == t294) || (!(bt319.2.2.2.2.1 == t295))))) = true then (none) else ((impl_ValidPiece.f t291 t292 t293 t294 t295).bind fun t326 => (if t326 = true then ((impl_ValidPiece.f bt305.1 bt305.2.1 bt305.2.2.1 bt305.2.2.2.1 bt305.2.2.2.2.1).bind fun t327 => (if t327 = true then (laws_FnPieces.j1 kj3 (wrap64 (t297 - 10)) t291 t292 t293 t294 t295 bt305.1 bt305.2.1 bt305.2.2.1 bt305.2.2.2.1 bt305.2.2.2.2.1) else (none))) else (none)))) else (none))) else (none))) else (none)) else (none))))))) = some r := H
 have A6 := Aside0.mk A60
 clear A60
 replace H := zob H
 obtain ⟨t297, A70, H⟩ := H
 replace H : ((impl_TurnPiece.f t291 t292 t293 t294 t295 (wrap64 (t297 - 10))).bind fun bt298 => ((spec_TurnPiece.f t291 t292 t293 t294 t295 (wrap64 (t297 - 10))).bind fun bt305 => ((impl_TurnPiece.f bt298.1 bt298.2.1 bt298.2.2.1 bt298.2.2.2.1 bt298.2.2.2.2.1 (wrap64 (-(wrap64 (t297 - 10))))).bind fun bt312 => ((impl_TurnPiece.f t291 t292 t293 t294 t295 4).bind fun bt319 => (if bt298.2.2.2.2.2 = bt305.2.2.2.2.2 then (if bt298.2.2.2.2.2 = 0 then (if ((!(bt298.1 == bt305.1) || (!(bt298.2.1 == bt305.2.1))) || (!(bt298.2.2.1 == bt305.2.2.1) || (!(bt298.2.2.2.1 == bt305.2.2.2.1) || (!(bt298.2.2.2.2.1 == bt305.2.2.2.2.1))))) = true then (none) else (if bt312.2.2.2.2.2 = 0 then (if ((!(bt312.1 == t291) || (!(bt312.2.1 == t292))) || (!(bt312.2.2.1 == t293) || (!(bt312.2.2.2.1 == t294) || (!(bt312.2.2.2.2.1 == t295))))) = true then (none) else (if bt319.2.2.2.2.2 = 0 then (if ((!(bt319.1 == t291) || (!(bt319.2.1 == t292))) || (!(bt319.2.2.1 == t293) || (!(bt319.2.2.2.1 == t294) || (!(bt319.2.2.2.2.1 == t295))))) = true then (none) else ((impl_ValidPiece.f t291 t292 t293 t294 t295).bind fun t326 => (if t326 = true then ((impl_ValidPiece.f bt305.1 bt305.2.1 bt305.2.2.1 bt305.2.2.2.1 bt305.2.2.2.2.1).bind fun t327 => (if t327 = true then (laws_FnPieces.j1 kj3 (wrap64 (t297 - 10)) t291 t292 t293 t294 t295 bt305.1 bt305.2.1 bt305.2.2.1 bt305.2.2.2.1 bt305.2.2.2.2.1) else (none))) else (none)))) else (none))) else (none))) else (none)) else (none)))))) = some r := H
 have A7 := Aside0.mk A70
 clear A70
 replace H := zob H
 obtain ⟨⟨t298, t299, t300, t301, t302, t303⟩, A80, H⟩ := H
 replace H : ((spec_TurnPiece.f t291 t292 t293 t294 t295 (wrap64 (t297 - 10))).bind fun bt305 => ((impl_TurnPiece.f t298 t299 t300 t301 t302 (wrap64 (-(wrap64 (t297 - 10))))).bind fun bt312 => ((impl_TurnPiece.f t291 t292 t293 t294 t295 4).bind fun bt319 => (if t303 = bt305.2.2.2.2.2 then (if t303 = 0 then (if ((!(t298 == bt305.1) || (!(t299 == bt305.2.1))) || (!(t300 == bt305.2.2.1) || (!(t301 == bt305.2.2.2.1) || (!(t302 == bt305.2.2.2.2.1))))) = true then (none) else (if bt312.2.2.2.2.2 = 0 then (if ((!(bt312.1 == t291) || (!(bt312.2.1 == t292))) || (!(bt312.2.2.1 == t293) || (!(bt312.2.2.2.1 == t294) || (!(bt312.2.2.2.2.1 == t295))))) = true then (none) else (if bt319.2.2.2.2.2 = 0 then (if ((!(bt319.1 == t291) || (!(bt319.2.1 == t292))) || (!(bt319.2.2.1 == t293) || (!(bt319.2.2.2.1 == t294) || (!(bt319.2.2.2.2.1 == t295))))) = true then (none) else ((impl_ValidPiece.f t291 t292 t293 t294 t295).bind fun t326 => (if t326 = true then ((impl_ValidPiece.f bt305.1 bt305.2.1 bt305.2.2.1 bt305.2.2.2.1 bt305.2.2.2.2.1).bind fun t327 => (if t327 = true then (laws_FnPieces.j1 kj3 (wrap64 (t297 - 10)) t291 t292 t293 t294 t295 bt305.1 bt305.2.1 bt305.2.2.1 bt305.2.2.2.1 bt305.2.2.2.2.1) else (none))) else (none)))) else (none))) else (none))) else (none)) else (none))))) = some r := H
 have A8 := Aside0.mk A80
 clear A80
 replace H := zob H
 obtain ⟨⟨t305, t306, t307, t308, t309, t310⟩, A90, H⟩ := H
 replace H : ((impl_TurnPiece.f t298 t299 t300 t301 t302 (wrap64 (-(wrap64 (t297 - 10))))).bind fun bt312 => ((impl_TurnPiece.f t291 t292 t293 t294 t295 4).bind fun bt319 => (if t303 = t310 then (if t303 = 0 then (if ((!(t298 == t305) || (!(t299 == t306))) || (!(t300 == t307) || (!(t301 == t308) || (!(t302 == t309))))) = true then (none) else (if bt312.2.2.2.2.2 = 0 then (if ((!(bt312.1 == t291) || (!(bt312.2.1 == t292))) || (!(bt312.2.2.1 == t293) || (!(bt312.2.2.2.1 == t294) || (!(bt312.2.2.2.2.1 == t295))))) = true then (none) else (if bt319.2.2.2.2.2 = 0 then (if ((!(bt319.1 == t291) || (!(bt319.2.1 == t292))) || (!(bt319.2.2.1 == t293) || (!(bt319.2.2.2.1 == t294) || (!(bt319.2.2.2.2.1 == t295))))) = true then (none) else ((impl_ValidPiece.f t291 t292 t293 t294 t295).bind fun t326 => (if t326 = true then ((impl_ValidPiece.f t305 t306 t307 t308 t309).bind fun t327 => (if t327 = true then (laws_FnPieces.j1 kj3 (wrap64 (t297 - 10)) t291 t292 t293 t294 t295 t305 t306 t307 t308 t309) else (none))) else (none)))) else (none))) else (none))) else (none)) else (none)))) = some r := H
 have A9 := Aside0.mk A90
 clear A90
 replace H := zob H
 obtain ⟨⟨t312, t313, t314, t315, t316, t317⟩, A100, H⟩ := H
 replace H : ((impl_TurnPiece.f t291 t292 t293 t294 t295 4).bind fun bt319 => (if t303 = t310 then (if t303 = 0 then (if ((!(t298 == t305) || (!(t299 == t306))) || (!(t300 == t307) || (!(t301 == t308) || (!(t302 == t309))))) = true then (none) else (if t317 = 0 then (if ((!(t312 == t291) || (!(t313 == t292))) || (!(t314 == t293) || (!(t315 == t294) || (!(t316 == t295))))) = true then (none) else (if bt319.2.2.2.2.2 = 0 then (if ((!(bt319.1 == t291) || (!(bt319.2.1 == t292))) || (!(bt319.2.2.1 == t293) || (!(bt319.2.2.2.1 == t294) || (!(bt319.2.2.2.2.1 == t295))))) = true then (none) else ((impl_ValidPiece.f t291 t292 t293 t294 t295).bind fun t326 => (if t326 = true then ((impl_ValidPiece.f t305 t306 t307 t308 t309).bind fun t327 => (if t327 = true then (laws_FnPieces.j1 kj3 (wrap64 (t297 - 10)) t291 t292 t293 t294 t295 t305 t306 t307 t308 t309) else (none))) else (none)))) else (none))) else (none))) else (none)) else (none))) = some r := H
 have A10 := Aside0.mk A100
 clear A100
 replace H := zob H
 obtain ⟨⟨t319, t320, t321, t322, t323, t324⟩, A110, H⟩ := H
 replace H : (if t303 = t310 then (if t303 = 0 then (if ((!(t298 == t305) || (!(t299 == t306))) || (!(t300 == t307) || (!(t301 == t308) || (!(t302 == t309))))) = true then (none) else (if t317 = 0 then (if ((!(t312 == t291) || (!(t313 == t292))) || (!(t314 == t293) || (!(t315 == t294) || (!(t316 == t295))))) = true then (none) else (if t324 = 0 then (if ((!(t319 == t291) || (!(t320 == t292))) || (!(t321 == t293) || (!(t322 == t294) || (!(t323 == t295))))) = true then (none) else ((impl_ValidPiece.f t291 t292 t293 t294 t295).bind fun t326 => (if t326 = true then ((impl_ValidPiece.f t305 t306 t307 t308 t309).bind fun t327 => (if t327 = true then (laws_FnPieces.j1 kj3 (wrap64 (t297 - 10)) t291 t292 t293 t294 t295 t305 t306 t307 t308 t309) else (none))) else (none)))) else (none))) else (none))) else (none)) else (none)) = some r := H
 have A11 := Aside0.mk A110
 clear A110
 by_cases c12 : t303 = t310
 rotate_left
 ·rw [if_neg c12] at H
  exact absurd H (by simp)
 rw [if_pos c12] at H
 have c12b0 : (t303 == t310) = true := beq_iff_eq.mpr c12
 have c12b1 : (t303 != t310) = false := bne_eq_false_iff_eq.mpr c12
 clear c12
 by_cases c13 : t303 = 0
 rotate_left
 ·rw [if_neg c13] at H
  exact absurd H (by simp)
 rw [if_pos c13] at H
 have c13b0 : (t303 == 0) = true := beq_iff_eq.mpr c13
 have c13b1 : (t303 != 0) = false := bne_eq_false_iff_eq.mpr c13
 clear c13
 by_cases c14 : ((!(t298 == t305) || (!(t299 == t306))) || (!(t300 == t307) || (!(t301 == t308) || (!(t302 == t309))))) = true
 ·rw [if_pos c14] at H
  exact absurd H (by simp)
 rw [if_neg c14] at H
 have c14b0 : ((!(t298 == t305) || (!(t299 == t306))) || (!(t300 == t307) || (!(t301 == t308) || (!(t302 == t309))))) = false := by simpa using c14
 clear c14
 by_cases c15 : t317 = 0
 rotate_left
 ·rw [if_neg c15] at H
  exact absurd H (by simp)
 rw [if_pos c15] at H
 have c15b0 : (t317 == 0) = true := beq_iff_eq.mpr c15
 have c15b1 : (t317 != 0) = false := bne_eq_false_iff_eq.mpr c15
 clear c15
 by_cases c16 : ((!(t312 == t291) || (!(t313 == t292))) || (!(t314 == t293) || (!(t315 == t294) || (!(t316 == t295))))) = true
 ·rw [if_pos c16] at H
  exact absurd H (by simp)
 rw [if_neg c16] at H
 have c16b0 : ((!(t312 == t291) || (!(t313 == t292))) || (!(t314 == t293) || (!(t315 == t294) || (!(t316 == t295))))) = false := by simpa using c16
 clear c16
 by_cases c17 : t324 = 0
 rotate_left
 ·rw [if_neg c17] at H
  exact absurd H (by simp)
 rw [if_pos c17] at H
 have c17b0 : (t324 == 0) = true := beq_iff_eq.mpr c17
 have c17b1 : (t324 != 0) = false := bne_eq_false_iff_eq.mpr c17
 clear c17
 by_cases c18 : ((!(t319 == t291) || (!(t320 == t292))) || (!(t321 == t293) || (!(t322 == t294) || (!(t323 == t295))))) = true
 ·rw [if_pos c18] at H
  exact absurd H (by simp)
 rw [if_neg c18] at H
 have c18b0 : ((!(t319 == t291) || (!(t320 == t292))) || (!(t321 == t293) || (!(t322 == t294) || (!(t323 == t295))))) = false := by simpa using c18
 clear c18
 replace H := zob H
 obtain ⟨t326, A190, H⟩ := H
 replace H : (if t326 = true then ((impl_ValidPiece.f t305 t306 t307 t308 t309).bind fun t327 => (if t327 = true then (laws_FnPieces.j1 kj3 (wrap64 (t297 - 10)) t291 t292 t293 t294 t295 t305 t306 t307 t308 t309) else (none))) else (none)) = some r := H
 have A19 := Aside0.mk A190
 clear A190
 by_cases c20 : t326 = true
 rotate_left
 ·replace c20 := Bool.eq_false_iff.mpr c20
  subst c20
  have H1 : (none) = some r := by rw [if_neg (show ¬ (false = true) by decide)] at H; exact H
  clear H
  have H := H1
  clear H1
  exact absurd H (by simp)
 subst c20
 have H1 : ((impl_ValidPiece.f t305 t306 t307 t308 t309).bind fun t327 => (if t327 = true then (laws_FnPieces.j1 kj3 (wrap64 (t297 - 10)) t291 t292 t293 t294 t295 t305 t306 t307 t308 t309) else (none))) = some r := by rw [if_pos rfl] at H; exact H
 clear H
 have H := H1
 clear H1
 replace H := zob H
 obtain ⟨t327, A210, H⟩ := H
 replace H : (if t327 = true then (laws_FnPieces.j1 kj3 (wrap64 (t297 - 10)) t291 t292 t293 t294 t295 t305 t306 t307 t308 t309) else (none)) = some r := H
 have A21 := Aside0.mk A210
 clear A210
 have HC22 := Aside0.mk H
 clear H
 go_upto_if 110 with (first | (go_at_call 5; (with_reducible refine (spec_A2Piece.calls _ _ l0 t291 t292 t293 t294 t295 _ ?side1 ?side2 A6.out).mono ?_); (case side1 => exact zcc HB HR0.out); (case side2 => exact HC0.out); rintro e w23 ⟨rfl, hb⟩; have n0_ := zb HB hb; clear HB; have HB := n0_; clear n0_; (try clear hb); (try clear hb2); (try clear hk); (try clear hi)) | ((with_reducible refine gate_dst (N := 5) rfl ?_); refine zbx 5 #[.int .i8 0, .int .i8 0, .int .i8 0, .int .i8 0, .int .i8 0] 28 ?_; intro gb296 hg w24 hbox hb; have n_ : _ ∧ _ ∧ _ ∧ _ := ⟨zb HB hb, Aside0.mk (hbox), zg HB hg, zg HB hg⟩; clear HB; obtain ⟨HB, BK296, GW296, GE296⟩ := n_; clear hb hbox hg; obtain ⟨z25_0, z25_1, z25_2, z25_3, z25_4, y25_0, y25_1, y25_2, y25_3, y25_4⟩ := zB5 BK296) | (go_at_call 6; (with_reducible refine (laws_a2At.calls _ _ l1 0 20 t297 _ ?side1 ?side2 A7.out).mono ?_); (case side1 => exact Kd.C_below HR1.out zbo); (case side2 => exact HC1.out); rintro e w' ⟨rfl, ⟨nd, rfl⟩⟩; (try first | exact ⟨rfl, _, World.drewN_drewN _ _ _⟩ | exact ⟨rfl, _, Eq.trans (World.drewN_drewN _ _ _) (congrArg (World.drewN _) (Nat.add_assoc _ _ _))⟩)) | (go_at_call 7; (with_reducible refine (impl_TurnPiece.calls t291 t292 t293 t294 t295 (wrap64 (t297 - 10)) t298 t299 t300 t301 t302 t303 _ A8.out).mono ?_); rintro e w26 ⟨rfl, hb⟩; have n_ : _ ∧ _ := ⟨Aside0.mk (blk_below (g := gb296) (o := .cells #[.int .i8 t291, .int .i8 t292, .int .i8 t293, .int .i8 t294, .int .i8 t295] 28 (0, 0)) (zp BK296) hb), zbs hb⟩; clear BK296 HB; obtain ⟨BK296, HB⟩ := n_; (try clear hb); (try clear hb2); (try clear hk); (try clear hi)) | ((with_reducible refine gate_dst (N := 7) rfl ?_); refine zbx 7 #[.int .i8 0, .int .i8 0, .int .i8 0, .int .i8 0, .int .i8 0] 28 ?_; intro gb304 hg w27 hbox hb; have n_ : _ ∧ _ ∧ _ ∧ _ ∧ _ ∧ _ ∧ _ := ⟨zk BK296 hb, zbs hb, Aside0.mk (hbox), zg HB hg, zg HB hg, zn1 BK296 hg, zn2 BK296 hg⟩; clear BK296 HB; obtain ⟨BK296, HB, BK304, GW304, GE304, NB296_304, NB304_296⟩ := n_; clear hb hbox hg; have hnb28 := NB304_296.out; have hnc28 := NB296_304.out; obtain ⟨z29_0, z29_1, z29_2, z29_3, z29_4, y29_0, y29_1, y29_2, y29_3, y29_4⟩ := zB5 BK304; obtain ⟨z30_0, z30_1, z30_2, z30_3, z30_4, y30_0, y30_1, y30_2, y30_3, y30_4⟩ := zB5 BK296) | (go_at_call 8; (with_reducible refine (spec_TurnPiece.calls t291 t292 t293 t294 t295 (wrap64 (t297 - 10)) t305 t306 t307 t308 t309 t310 _ A9.out).mono ?_); rintro e w31 ⟨rfl, hb⟩; have n_ : _ ∧ _ ∧ _ := ⟨zfb BK296 NB296_304 hb, Aside0.mk (blk_below (g := gb304) (o := .cells #[.int .i8 t298, .int .i8 t299, .int .i8 t300, .int .i8 t301, .int .i8 t302] 28 (0, 0)) (zp BK304) hb), zbs hb⟩; clear BK296 BK304 HB; obtain ⟨BK296, BK304, HB⟩ := n_; (try clear hb); (try clear hb2); (try clear hk); (try clear hi)) | ((with_reducible refine gate_dst (N := 9) rfl ?_); refine zbx 9 #[.int .i8 0, .int .i8 0, .int .i8 0, .int .i8 0, .int .i8 0] 28 ?_; intro gb311 hg w32 hbox hb; have n_ : _ ∧ _ ∧ _ ∧ _ ∧ _ ∧ _ ∧ _ ∧ _ ∧ _ ∧ _ := ⟨zk BK296 hb, zk BK304 hb, zbs hb, Aside0.mk (hbox), zg HB hg, zg HB hg, zn1 BK296 hg, zn2 BK296 hg, zn1 BK304 hg, zn2 BK304 hg⟩; clear BK296 BK304 HB; obtain ⟨BK296, BK304, HB, BK311, GW311, GE311, NB296_311, NB311_296, NB304_311, NB311_304⟩ := n_; clear hb hbox hg; have hnb33 := NB311_296.out; have hnc33 := NB296_311.out; have hnb34 := NB311_304.out; have hnc34 := NB304_311.out; obtain ⟨z35_0, z35_1, z35_2, z35_3, z35_4, y35_0, y35_1, y35_2, y35_3, y35_4⟩ := zB5 BK311; obtain ⟨z36_0, z36_1, z36_2, z36_3, z36_4, y36_0, y36_1, y36_2, y36_3, y36_4⟩ := zB5 BK304) | (go_at_call 7; (with_reducible refine (impl_TurnPiece.calls t298 t299 t300 t301 t302 (wrap64 (-(wrap64 (t297 - 10)))) t312 t313 t314 t315 t316 t317 _ A10.out).mono ?_); rintro e w37 ⟨rfl, hb⟩; have n_ : _ ∧ _ ∧ _ ∧ _ := ⟨zfb BK296 NB296_311 hb, zfb BK304 NB304_311 hb, Aside0.mk (blk_below (g := gb311) (o := .cells #[.int .i8 t305, .int .i8 t306, .int .i8 t307, .int .i8 t308, .int .i8 t309] 28 (0, 0)) (zp BK311) hb), zbs hb⟩; clear BK296 BK304 BK311 HB; obtain ⟨BK296, BK304, BK311, HB⟩ := n_; (try clear hb); (try clear hb2); (try clear hk); (try clear hi)) | ((with_reducible refine gate_dst (N := 11) rfl ?_); refine zbx 11 #[.int .i8 0, .int .i8 0, .int .i8 0, .int .i8 0, .int .i8 0] 28 ?_; intro gb318 hg w38 hbox hb; have n_ : _ ∧ _ ∧ _ ∧ _ ∧ _ ∧ _ ∧ _ ∧ _ ∧ _ ∧ _ ∧ _ ∧ _ ∧ _ := ⟨zk BK296 hb, zk BK304 hb, zk BK311 hb, zbs hb, Aside0.mk (hbox), zg HB hg, zg HB hg, zn1 BK296 hg, zn2 BK296 hg, zn1 BK304 hg, zn2 BK304 hg, zn1 BK311 hg, zn2 BK311 hg⟩; clear BK296 BK304 BK311 HB; obtain ⟨BK296, BK304, BK311, HB, BK318, GW318, GE318, NB296_318, NB318_296, NB304_318, NB318_304, NB311_318, NB318_311⟩ := n_; clear hb hbox hg; have hnb39 := NB318_296.out; have hnc39 := NB296_318.out; have hnb40 := NB318_304.out; have hnc40 := NB304_318.out; have hnb41 := NB318_311.out; have hnc41 := NB311_318.out; obtain ⟨z42_0, z42_1, z42_2, z42_3, z42_4, y42_0, y42_1, y42_2, y42_3, y42_4⟩ := zB5 BK318; obtain ⟨z43_0, z43_1, z43_2, z43_3, z43_4, y43_0, y43_1, y43_2, y43_3, y43_4⟩ := zB5 BK296) | (go_at_call 7; (with_reducible refine (impl_TurnPiece.calls t291 t292 t293 t294 t295 4 t319 t320 t321 t322 t323 t324 _ A11.out).mono ?_); rintro e w44 ⟨rfl, hb⟩; have n_ : _ ∧ _ ∧ _ ∧ _ ∧ _ := ⟨zfb BK296 NB296_318 hb, zfb BK304 NB304_318 hb, zfb BK311 NB311_318 hb, Aside0.mk (blk_below (g := gb318) (o := .cells #[.int .i8 t312, .int .i8 t313, .int .i8 t314, .int .i8 t315, .int .i8 t316] 28 (0, 0)) (zp BK318) hb), zbs hb⟩; clear BK296 BK304 BK311 BK318 HB; obtain ⟨BK296, BK304, BK311, BK318, HB⟩ := n_; (try clear hb); (try clear hb2); (try clear hk); (try clear hi)) | ((with_reducible refine gate_dst (N := 13) rfl ?_); refine zbx 13 #[.int .i8 0, .int .i8 0, .int .i8 0, .int .i8 0, .int .i8 0] 28 ?_; intro gb325 hg w45 hbox hb; have n_ : _ ∧ _ ∧ _ ∧ _ ∧ _ ∧ _ ∧ _ ∧ _ ∧ _ ∧ _ ∧ _ ∧ _ ∧ _ ∧ _ ∧ _ ∧ _ := ⟨zk BK296 hb, zk BK304 hb, zk BK311 hb, zk BK318 hb, zbs hb, Aside0.mk (hbox), zg HB hg, zg HB hg, zn1 BK296 hg, zn2 BK296 hg, zn1 BK304 hg, zn2 BK304 hg, zn1 BK311 hg, zn2 BK311 hg, zn1 BK318 hg, zn2 BK318 hg⟩; clear BK296 BK304 BK311 BK318 HB; obtain ⟨BK296, BK304, BK311, BK318, HB, BK325, GW325, GE325, NB296_325, NB325_296, NB304_325, NB325_304, NB311_325, NB325_311, NB318_325, NB325_318⟩ := n_; clear hb hbox hg; have hnb46 := NB325_296.out; have hnc46 := NB296_325.out; have hnb47 := NB325_304.out; have hnc47 := NB304_325.out; have hnb48 := NB325_311.out; have hnc48 := NB311_325.out; have hnb49 := NB325_318.out; have hnc49 := NB318_325.out; obtain ⟨z50_0, z50_1, z50_2, z50_3, z50_4, y50_0, y50_1, y50_2, y50_3, y50_4⟩ := zB5 BK325; obtain ⟨z51_0, z51_1, z51_2, z51_3, z51_4, y51_0, y51_1, y51_2, y51_3, y51_4⟩ := zB5 BK304; obtain ⟨z52_0, z52_1, z52_2, z52_3, z52_4, y52_0, y52_1, y52_2, y52_3, y52_4⟩ := zB5 BK311; obtain ⟨z53_0, z53_1, z53_2, z53_3, z53_4, y53_0, y53_1, y53_2, y53_3, y53_4⟩ := zB5 BK318; obtain ⟨z54_0, z54_1, z54_2, z54_3, z54_4, y54_0, y54_1, y54_2, y54_3, y54_4⟩ := zB5 BK296) | (go_at_call 9; (with_reducible refine (impl_ValidPiece.calls t291 t292 t293 t294 t295 true _ A19.out).mono ?_); rintro e w55 ⟨rfl, hb⟩; have n_ : _ ∧ _ ∧ _ ∧ _ ∧ _ ∧ _ := ⟨zfb BK296 NB296_325 hb, zfb BK304 NB304_325 hb, zfb BK311 NB311_325 hb, zfb BK318 NB318_325 hb, Aside0.mk (blk_below (g := gb325) (o := .cells #[.int .i8 t319, .int .i8 t320, .int .i8 t321, .int .i8 t322, .int .i8 t323] 28 (0, 0)) (zp BK325) hb), zbs hb⟩; clear BK296 BK304 BK311 BK318 BK325 HB; obtain ⟨BK296, BK304, BK311, BK318, BK325, HB⟩ := n_; (try clear hb); (try clear hb2); (try clear hk); (try clear hi); obtain ⟨z56_0, z56_1, z56_2, z56_3, z56_4, y56_0, y56_1, y56_2, y56_3, y56_4⟩ := zB5 BK311) | (go_at_call 9; (with_reducible refine (impl_ValidPiece.calls t305 t306 t307 t308 t309 t327 _ A21.out).mono ?_); rintro e w57 ⟨rfl, hb⟩; have n_ : _ ∧ _ ∧ _ ∧ _ ∧ _ ∧ _ := ⟨zk BK296 hb, zk BK304 hb, zk BK311 hb, zk BK318 hb, zk BK325 hb, zbs hb⟩; clear BK296 BK304 BK311 BK318 BK325 HB; obtain ⟨BK296, BK304, BK311, BK318, BK325, HB⟩ := n_; (try clear hb); (try clear hb2); (try clear hk); (try clear hi)))
 (try simp only [Act.put, List.setIfInBounds_toArray, List.set_cons_zero, List.set_cons_succ])
 go_cut [] (fun wc => ∃ (kq : Nat), Aside0 (laws_FnPieces.j1 kq (wrap64 (t297 - 10)) t291 t292 t293 t294 t295 t305 t306 t307 t308 t309 = some r) ∧ Aside0 (kq ≤ kj3) ∧ Aside0 (wc.heap[gb296]? = some (.cells #[.int .i8 t291, .int .i8 t292, .int .i8 t293, .int .i8 t294, .int .i8 t295] 28 (0, 0))) ∧ Aside0 (wc.heap[gb304]? = some (.cells #[.int .i8 t298, .int .i8 t299, .int .i8 t300, .int .i8 t301, .int .i8 t302] 28 (0, 0))) ∧ Aside0 (wc.heap[gb311]? = some (.cells #[.int .i8 t305, .int .i8 t306, .int .i8 t307, .int .i8 t308, .int .i8 t309] 28 (0, 0))) ∧ Aside0 (wc.heap[gb318]? = some (.cells #[.int .i8 t312, .int .i8 t313, .int .i8 t314, .int .i8 t315, .int .i8 t316] 28 (0, 0))) ∧ Aside0 (wc.heap[gb325]? = some (.cells #[.int .i8 t319, .int .i8 t320, .int .i8 t321, .int .i8 t322, .int .i8 t323] 28 (0, 0))) ∧ Aside0 (Below w.heap.size w wc))
 case first =>
  as_aux_lemma =>
   have H := HC22.out
   clear HC22
   by_cases c58 : t327 = true
   rotate_left
   ·replace c58 := Bool.eq_false_iff.mpr c58
    subst c58
    have H1 : (none) = some r := by rw [if_neg (show ¬ (false = true) by decide)] at H; exact H
    clear H
    have H := H1
    clear H1
    exact absurd H (by simp)
   subst c58
   have H1 : (laws_FnPieces.j1 kj3 (wrap64 (t297 - 10)) t291 t292 t293 t294 t295 t305 t306 t307 t308 t309) = some r := by rw [if_pos rfl] at H; exact H
   clear H
   have H := H1
   clear H1
   have H' := Aside0.mk H
   clear H
   go_wp2
   repeat (go_quiet (fail); try go_wp2)
   go_meet
   case rel => exact ⟨_, H', ⟨by have := HJ3.out; first | omega | exact Nat.le_refl _⟩, zh BK296, zh BK304, zh BK311, zh BK318, zh BK325, zba⟩
 as_aux_lemma =>
  clear HC22
  try clear c1
  try clear c2
  try clear p2
  try clear c3
  try clear c4
  try clear c5
  try clear p6
  try clear c12
  try clear c12b0
  try clear c12b1
  try clear c13
  try clear c13b0
  try clear c13b1
  try clear c14
  try clear c14b0
  try clear c15
  try clear c15b0
  try clear c15b1
  try clear c16
  try clear c16b0
  try clear c17
  try clear c17b0
  try clear c17b1
  try clear c18
  try clear c18b0
  try clear c20
  try clear c28
  try clear c33
  try clear c34
  try clear c39
  try clear c40
  try clear c41
  try clear c46
  try clear c47
  try clear c48
  try clear c49
  try clear c58
  try clear z25_0 z25_1 z25_2 z25_3 z25_4
  try clear z29_0 z29_1 z29_2 z29_3 z29_4
  try clear z30_0 z30_1 z30_2 z30_3 z30_4
  try clear z35_0 z35_1 z35_2 z35_3 z35_4
  try clear z36_0 z36_1 z36_2 z36_3 z36_4
  try clear z42_0 z42_1 z42_2 z42_3 z42_4
  try clear z43_0 z43_1 z43_2 z43_3 z43_4
  try clear z50_0 z50_1 z50_2 z50_3 z50_4
  try clear z51_0 z51_1 z51_2 z51_3 z51_4
  try clear z52_0 z52_1 z52_2 z52_3 z52_4
  try clear z53_0 z53_1 z53_2 z53_3 z53_4
  try clear z54_0 z54_1 z54_2 z54_3 z54_4
  try clear z56_0 z56_1 z56_2 z56_3 z56_4
  try clear y25_0
  try clear y25_1
  try clear y25_2
  try clear y25_3
  try clear y25_4
  try clear y29_0
  try clear y29_1
  try clear y29_2
  try clear y29_3
  try clear y29_4
  try clear y30_0
  try clear y30_1
  try clear y30_2
  try clear y30_3
  try clear y30_4
  try clear y35_0
  try clear y35_1
  try clear y35_2
  try clear y35_3
  try clear y35_4
  try clear y36_0
  try clear y36_1
  try clear y36_2
  try clear y36_3
  try clear y36_4
  try clear y42_0
  try clear y42_1
  try clear y42_2
  try clear y42_3
  try clear y42_4
  try clear y43_0
  try clear y43_1
  try clear y43_2
  try clear y43_3
  try clear y43_4
  try clear y50_0
  try clear y50_1
  try clear y50_2
  try clear y50_3
  try clear y50_4
  try clear y51_0
  try clear y51_1
  try clear y51_2
  try clear y51_3
  try clear y51_4
  try clear y52_0
  try clear y52_1
  try clear y52_2
  try clear y52_3
  try clear y52_4
  try clear y53_0
  try clear y53_1
  try clear y53_2
  try clear y53_3
  try clear y53_4
  try clear y54_0
  try clear y54_1
  try clear y54_2
  try clear y54_3
  try clear y54_4
  try clear y56_0
  try clear y56_1
  try clear y56_2
  try clear y56_3
  try clear y56_4
  try clear p2
  obtain ⟨kq, HA, HJ21, BK296, BK304, BK311, BK318, BK325, HB⟩ := hcut
  cases kq with
  | zero => exact absurd HA.out (by simp [laws_FnPieces.j1])
  | succ kj21 => ?_
  have H := HA.out
  clear HA
  simp only [laws_FnPieces.j1] at H
  have H' := Aside0.mk H
  clear H
  go_wp2
  repeat (go_quiet (fail); try go_wp2)
  go_loopg [15, 16] kj21 (fun kq v15 v16 w' => ∃ (x15_3 : Bool) (x16_3 : Int), v15 = .bool x15_3 ∧ v16 = .int .i64 x16_3 ∧ Aside0 (laws_FnPieces.l0 kq (wrap64 (t297 - 10)) x15_3 x16_3 t291 t292 t293 t294 t295 t305 t306 t307 t308 t309 = some r) ∧ Aside0 (kq ≤ kj21) ∧ Aside0 (w'.heap[gb296]? = some (.cells #[.int .i8 t291, .int .i8 t292, .int .i8 t293, .int .i8 t294, .int .i8 t295] 28 (0, 0))) ∧ Aside0 (w'.heap[gb304]? = some (.cells #[.int .i8 t298, .int .i8 t299, .int .i8 t300, .int .i8 t301, .int .i8 t302] 28 (0, 0))) ∧ Aside0 (w'.heap[gb311]? = some (.cells #[.int .i8 t305, .int .i8 t306, .int .i8 t307, .int .i8 t308, .int .i8 t309] 28 (0, 0))) ∧ Aside0 (w'.heap[gb318]? = some (.cells #[.int .i8 t312, .int .i8 t313, .int .i8 t314, .int .i8 t315, .int .i8 t316] 28 (0, 0))) ∧ Aside0 (w'.heap[gb325]? = some (.cells #[.int .i8 t319, .int .i8 t320, .int .i8 t321, .int .i8 t322, .int .i8 t323] 28 (0, 0))) ∧ Aside0 (Below w.heap.size w w'))
  case atStart => exact ⟨(true), (0), zi, zi, H', ⟨Nat.le_refl _⟩, zh BK296, zh BK304, zh BK311, zh BK318, zh BK325, zba⟩
  as_aux_lemma =>
   clear H'
   try clear c1
   try clear c2
   try clear p2
   try clear c3
   try clear c4
   try clear c5
   try clear p6
   try clear c12
   try clear c12b0
   try clear c12b1
   try clear c13
   try clear c13b0
   try clear c13b1
   try clear c14
   try clear c14b0
   try clear c15
   try clear c15b0
   try clear c15b1
   try clear c16
   try clear c16b0
   try clear c17
   try clear c17b0
   try clear c17b1
   try clear c18
   try clear c18b0
   try clear c20
   try clear c28
   try clear c33
   try clear c34
   try clear c39
   try clear c40
   try clear c41
   try clear c46
   try clear c47
   try clear c48
   try clear c49
   try clear c58
   try clear z25_0 z25_1 z25_2 z25_3 z25_4
   try clear z29_0 z29_1 z29_2 z29_3 z29_4
   try clear z30_0 z30_1 z30_2 z30_3 z30_4
   try clear z35_0 z35_1 z35_2 z35_3 z35_4
   try clear z36_0 z36_1 z36_2 z36_3 z36_4
   try clear z42_0 z42_1 z42_2 z42_3 z42_4
   try clear z43_0 z43_1 z43_2 z43_3 z43_4
   try clear z50_0 z50_1 z50_2 z50_3 z50_4
   try clear z51_0 z51_1 z51_2 z51_3 z51_4
   try clear z52_0 z52_1 z52_2 z52_3 z52_4
   try clear z53_0 z53_1 z53_2 z53_3 z53_4
   try clear z54_0 z54_1 z54_2 z54_3 z54_4
   try clear z56_0 z56_1 z56_2 z56_3 z56_4
   try clear y25_0
   try clear y25_1
   try clear y25_2
   try clear y25_3
   try clear y25_4
   try clear y29_0
   try clear y29_1
   try clear y29_2
   try clear y29_3
   try clear y29_4
   try clear y30_0
   try clear y30_1
   try clear y30_2
   try clear y30_3
   try clear y30_4
   try clear y35_0
   try clear y35_1
   try clear y35_2
   try clear y35_3
   try clear y35_4
   try clear y36_0
   try clear y36_1
   try clear y36_2
   try clear y36_3
   try clear y36_4
   try clear y42_0
   try clear y42_1
   try clear y42_2
   try clear y42_3
   try clear y42_4
   try clear y43_0
   try clear y43_1
   try clear y43_2
   try clear y43_3
   try clear y43_4
   try clear y50_0
   try clear y50_1
   try clear y50_2
   try clear y50_3
   try clear y50_4
   try clear y51_0
   try clear y51_1
   try clear y51_2
   try clear y51_3
   try clear y51_4
   try clear y52_0
   try clear y52_1
   try clear y52_2
   try clear y52_3
   try clear y52_4
   try clear y53_0
   try clear y53_1
   try clear y53_2
   try clear y53_3
   try clear y53_4
   try clear y54_0
   try clear y54_1
   try clear y54_2
   try clear y54_3
   try clear y54_4
   try clear y56_0
   try clear y56_1
   try clear y56_2
   try clear y56_3
   try clear y56_4
   try clear p2
   try clear p6
   obtain ⟨x15_3, x16_3, rfl, rfl, HA, HK3, BK296, BK304, BK311, BK318, BK325, HB⟩ := hrel
   cases gk with
   | zero => exact absurd HA.out (by simp [laws_FnPieces.l0])
   | succ k3 => ?_
   have H := HA.out
   clear HA
   simp only [laws_FnPieces.l0] at H
   have HC59 := Aside0.mk H
   clear H
   go_upto_if 112 with (fail)
   repeat (go_quiet (fail); go_upto_if 112 with (fail))
   go_cut [] (fun wc => ∃ (kq : Nat), Aside0 (laws_FnPieces.j4 kq (wrap64 (t297 - 10)) x15_3 x16_3 t291 t292 t293 t294 t295 t305 t306 t307 t308 t309 = some r) ∧ Aside0 (kq ≤ k3) ∧ Aside0 (wc.heap[gb296]? = some (.cells #[.int .i8 t291, .int .i8 t292, .int .i8 t293, .int .i8 t294, .int .i8 t295] 28 (0, 0))) ∧ Aside0 (wc.heap[gb304]? = some (.cells #[.int .i8 t298, .int .i8 t299, .int .i8 t300, .int .i8 t301, .int .i8 t302] 28 (0, 0))) ∧ Aside0 (wc.heap[gb311]? = some (.cells #[.int .i8 t305, .int .i8 t306, .int .i8 t307, .int .i8 t308, .int .i8 t309] 28 (0, 0))) ∧ Aside0 (wc.heap[gb318]? = some (.cells #[.int .i8 t312, .int .i8 t313, .int .i8 t314, .int .i8 t315, .int .i8 t316] 28 (0, 0))) ∧ Aside0 (wc.heap[gb325]? = some (.cells #[.int .i8 t319, .int .i8 t320, .int .i8 t321, .int .i8 t322, .int .i8 t323] 28 (0, 0))) ∧ Aside0 (Below w.heap.size w wc))
   case first =>
    as_aux_lemma =>
     have H := HC59.out
     clear HC59
     by_cases c60 : x16_3 < 4
     ·rw [if_pos c60] at H
      have c60b0 : decide (x16_3 < 4) = true := decide_eq_true c60
      clear c60
      (first | rw [c60b0] | (simp only [i64_w, i32_w]; rw [c60b0]) | (have h_ := c60b0; simp only [bne] at h_; rw [h_]) | skip)
      have H' := Aside0.mk H
      clear H
      go_wp2
      repeat (go_quiet (fail); try go_wp2)
      go_meet
      case rel => exact ⟨_, H', ⟨by have := HJ3.out; have := HJ21.out; have := HK3.out; first | omega | exact Nat.le_refl _⟩, zh BK296, zh BK304, zh BK311, zh BK318, zh BK325, zba⟩
     rw [if_neg c60] at H
     have c60b0 : decide (x16_3 < 4) = false := decide_eq_false c60
     clear c60
     (first | rw [c60b0] | (simp only [i64_w, i32_w]; rw [c60b0]) | (have h_ := c60b0; simp only [bne] at h_; rw [h_]) | skip)
     replace H := zob H
     obtain ⟨⟨t328, t329⟩, A610, H⟩ := H
     replace H : (if t329 = 0 then (some (t328 == x15_3)) else (none)) = some r := H
     have A61 := Aside0.mk A610
     clear A610
     by_cases c62 : t329 = 0
     rotate_left
     ·rw [if_neg c62] at H
      exact absurd H (by simp)
     rw [if_pos c62] at H
     have c62b0 : (t329 == 0) = true := beq_iff_eq.mpr c62
     have c62b1 : (t329 != 0) = false := bne_eq_false_iff_eq.mpr c62
     clear c62
     obtain rfl := Option.some.inj H
     have hnb63 := NB296_304.out
     have hnc63 := NB304_296.out
     have hnb64 := NB296_311.out
     have hnc64 := NB311_296.out
     have hnb65 := NB296_318.out
     have hnc65 := NB318_296.out
     have hnb66 := NB296_325.out
     have hnc66 := NB325_296.out
     obtain ⟨z67_0, z67_1, z67_2, z67_3, z67_4, y67_0, y67_1, y67_2, y67_3, y67_4⟩ := zB5 BK296
     have hnb68 := NB311_304.out
     have hnc68 := NB304_311.out
     have hnb69 := NB311_318.out
     have hnc69 := NB318_311.out
     have hnb70 := NB311_325.out
     have hnc70 := NB325_311.out
     obtain ⟨z71_0, z71_1, z71_2, z71_3, z71_4, y71_0, y71_1, y71_2, y71_3, y71_4⟩ := zB5 BK311
     go_wp2_with (first | (go_at_call 15; (with_reducible refine (impl_AlikePieces.calls k3 t291 t292 t293 t294 t295 t305 t306 t307 t308 t309 t328 t329 _ A61.out).mono ?_); rintro e w72 ⟨rfl, hb⟩; have n_ : _ ∧ _ ∧ _ ∧ _ ∧ _ ∧ _ := ⟨zk BK296 hb, zk BK304 hb, zk BK311 hb, zk BK318 hb, zk BK325 hb, zbs hb⟩; clear BK296 BK304 BK311 BK318 BK325 HB; obtain ⟨BK296, BK304, BK311, BK318, BK325, HB⟩ := n_; (try clear hb); (try clear hb2); (try clear hk); (try clear hi)) | go_quiet (first | (go_at_call 15; (with_reducible refine (impl_AlikePieces.calls k3 t291 t292 t293 t294 t295 t305 t306 t307 t308 t309 t328 t329 _ A61.out).mono ?_); rintro e w72 ⟨rfl, hb⟩; have n0_ := zk BK296 hb; have n1_ := zk BK304 hb; have n2_ := zk BK311 hb; have n3_ := zk BK318 hb; have n4_ := zk BK325 hb; have n5_ := zbs hb; clear BK296; clear BK304; clear BK311; clear BK318; clear BK325; clear HB; have BK296 := n0_; have BK304 := n1_; have BK311 := n2_; have BK318 := n3_; have BK325 := n4_; have HB := n5_; clear n0_ n1_ n2_ n3_ n4_ n5_; (try clear hb); (try clear hb2); (try clear hk); (try clear hi))))
     go_ret
     exact ⟨zv, zbo⟩
   as_aux_lemma =>
    clear HC59
    try clear c1
    try clear c2
    try clear p2
    try clear c3
    try clear c4
    try clear c5
    try clear c6
    try clear p6
    try clear c7
    try clear c12
    try clear c12b0
    try clear c12b1
    try clear c13
    try clear c13b0
    try clear c13b1
    try clear c14
    try clear c14b0
    try clear c15
    try clear c15b0
    try clear c15b1
    try clear c16
    try clear c16b0
    try clear c17
    try clear c17b0
    try clear c17b1
    try clear c18
    try clear c18b0
    try clear c20
    try clear c28
    try clear c33
    try clear c34
    try clear c39
    try clear c40
    try clear c41
    try clear c46
    try clear c47
    try clear c48
    try clear c49
    try clear c58
    try clear c60
    try clear c60b0
    try clear c62
    try clear c62b0
    try clear c62b1
    try clear c63
    try clear c64
    try clear p64
    try clear c65
    try clear c66
    try clear c68
    try clear c69
    try clear c70
    try clear z25_0 z25_1 z25_2 z25_3 z25_4
    try clear z29_0 z29_1 z29_2 z29_3 z29_4
    try clear z30_0 z30_1 z30_2 z30_3 z30_4
    try clear z35_0 z35_1 z35_2 z35_3 z35_4
    try clear z36_0 z36_1 z36_2 z36_3 z36_4
    try clear z42_0 z42_1 z42_2 z42_3 z42_4
    try clear z43_0 z43_1 z43_2 z43_3 z43_4
    try clear z50_0 z50_1 z50_2 z50_3 z50_4
    try clear z51_0 z51_1 z51_2 z51_3 z51_4
    try clear z52_0 z52_1 z52_2 z52_3 z52_4
    try clear z53_0 z53_1 z53_2 z53_3 z53_4
    try clear z54_0 z54_1 z54_2 z54_3 z54_4
    try clear z56_0 z56_1 z56_2 z56_3 z56_4
    try clear z67_0 z67_1 z67_2 z67_3 z67_4
    try clear z71_0 z71_1 z71_2 z71_3 z71_4
    try clear y25_0
    try clear y25_1
    try clear y25_2
    try clear y25_3
    try clear y25_4
    try clear y29_0
    try clear y29_1
    try clear y29_2
    try clear y29_3
    try clear y29_4
    try clear y30_0
    try clear y30_1
    try clear y30_2
    try clear y30_3
    try clear y30_4
    try clear y35_0
    try clear y35_1
    try clear y35_2
    try clear y35_3
    try clear y35_4
    try clear y36_0
    try clear y36_1
    try clear y36_2
    try clear y36_3
    try clear y36_4
    try clear y42_0
    try clear y42_1
    try clear y42_2
    try clear y42_3
    try clear y42_4
    try clear y43_0
    try clear y43_1
    try clear y43_2
    try clear y43_3
    try clear y43_4
    try clear y50_0
    try clear y50_1
    try clear y50_2
    try clear y50_3
    try clear y50_4
    try clear y51_0
    try clear y51_1
    try clear y51_2
    try clear y51_3
    try clear y51_4
    try clear y52_0
    try clear y52_1
    try clear y52_2
    try clear y52_3
    try clear y52_4
    try clear y53_0
    try clear y53_1
    try clear y53_2
    try clear y53_3
    try clear y53_4
    try clear y54_0
    try clear y54_1
    try clear y54_2
    try clear y54_3
    try clear y54_4
    try clear y56_0
    try clear y56_1
    try clear y56_2
    try clear y56_3
    try clear y56_4
    try clear y67_0
    try clear y67_1
    try clear y67_2
    try clear y67_3
    try clear y67_4
    try clear y71_0
    try clear y71_1
    try clear y71_2
    try clear y71_3
    try clear y71_4
    try clear p2
    try clear p6
    obtain ⟨kq, HA, HJ58, BK296, BK304, BK311, BK318, BK325, HB⟩ := hcut
    cases kq with
    | zero => exact absurd HA.out (by simp [laws_FnPieces.j4])
    | succ kj58 => ?_
    have H := HA.out
    clear HA
    simp only [laws_FnPieces.j4] at H
    replace H := zob H
    obtain ⟨⟨t330, t331⟩, A730, H⟩ := H
    replace H : ((spec_FallsFrom.f kj58 t291 t292 t293 t294 t295 x16_3).bind fun bt332 => ((impl_FallsFrom.f kj58 t305 t306 t307 t308 t309 (Int.tmod (wrap64 ((wrap64 (x16_3 + (wrap64 (t297 - 10)))) + 12)) 4)).bind fun bt334 => ((impl_HitsFrom.f kj58 t291 t292 t293 t294 t295 x16_3).bind fun bt336 => ((spec_HitsFrom.f kj58 t291 t292 t293 t294 t295 x16_3).bind fun bt342 => ((impl_HitsFrom.f kj58 t305 t306 t307 t308 t309 (Int.tmod (wrap64 ((wrap64 (x16_3 + (wrap64 (t297 - 10)))) + 12)) 4)).bind fun bt348 => ((spec_HitsFrom.f kj58 t305 t306 t307 t308 t309 x16_3).bind fun bt354 => ((spec_FallsFrom.f kj58 t305 t306 t307 t308 t309 x16_3).bind fun bt360 => ((impl_OppositeSide.f x16_3).bind fun bt362 => (if t331 = bt332.2 then (if t331 = 0 then (if (t330 != bt332.1) = true then (none) else (if bt334.2 = 0 then (if (bt334.1 != bt332.1) = true then (none) else (if bt336.2.2.2.2 = bt342.2.2.2.2 then (if bt336.2.2.2.2 = 0 then (if (!(bt336.1 == bt342.1) || (!(bt336.2.1 == bt342.2.1) || (!(bt336.2.2.1 == bt342.2.2.1) || (!(bt336.2.2.2.1 == bt342.2.2.2.1))))) = true then (none) else (if bt348.2.2.2.2 = 0 then (if 0 ≤ x16_3 then (if x16_3 < 4 then (if rdOf false [bt342.1, bt342.2.1, bt342.2.2.1, bt342.2.2.2.1] x16_3 = true then (none) else (if bt354.2.2.2.2 = 0 then (if bt360.2 = 0 then (if bt362.2 = 0 then (if bt362.1 = (Int.tmod (wrap64 (x16_3 + 2)) 4) then (laws_FnPieces.j5 kj58 (wrap64 (t297 - 10)) x15_3 x16_3 bt332.1 bt360.1 t291 t292 t293 t294 t295 t305 t306 t307 t308 t309 bt342.1 bt342.2.1 bt342.2.2.1 bt342.2.2.2.1 bt348.1 bt348.2.1 bt348.2.2.1 bt348.2.2.2.1 bt354.1 bt354.2.1 bt354.2.2.1 bt354.2.2.2.1) else (none)) else (none)) else (none)) else (none))) else (none)) else (none)) else (none))) else (none)) else (none))) else (none))) else (none)) else (none)))))))))) = some r := H
    have A73 := Aside0.mk A730
    clear A730
    replace H := zob H
    obtain ⟨⟨t332, t333⟩, A740, H⟩ := H
    replace H : ((impl_FallsFrom.f kj58 t305 t306 t307 t308 t309 (Int.tmod (wrap64 ((wrap64 (x16_3 + (wrap64 (t297 - 10)))) + 12)) 4)).bind fun bt334 => ((impl_HitsFrom.f kj58 t291 t292 t293 t294 t295 x16_3).bind fun bt336 => ((spec_HitsFrom.f kj58 t291 t292 t293 t294 t295 x16_3).bind fun bt342 => ((impl_HitsFrom.f kj58 t305 t306 t307 t308 t309 (Int.tmod (wrap64 ((wrap64 (x16_3 + (wrap64 (t297 - 10)))) + 12)) 4)).bind fun bt348 => ((spec_HitsFrom.f kj58 t305 t306 t307 t308 t309 x16_3).bind fun bt354 => ((spec_FallsFrom.f kj58 t305 t306 t307 t308 t309 x16_3).bind fun bt360 => ((impl_OppositeSide.f x16_3).bind fun bt362 => (if t331 = t333 then (if t331 = 0 then (if (t330 != t332) = true then (none) else (if bt334.2 = 0 then (if (bt334.1 != t332) = true then (none) else (if bt336.2.2.2.2 = bt342.2.2.2.2 then (if bt336.2.2.2.2 = 0 then (if (!(bt336.1 == bt342.1) || (!(bt336.2.1 == bt342.2.1) || (!(bt336.2.2.1 == bt342.2.2.1) || (!(bt336.2.2.2.1 == bt342.2.2.2.1))))) = true then (none) else (if bt348.2.2.2.2 = 0 then (if 0 ≤ x16_3 then (if x16_3 < 4 then (if rdOf false [bt342.1, bt342.2.1, bt342.2.2.1, bt342.2.2.2.1] x16_3 = true then (none) else (if bt354.2.2.2.2 = 0 then (if bt360.2 = 0 then (if bt362.2 = 0 then (if bt362.1 = (Int.tmod (wrap64 (x16_3 + 2)) 4) then (laws_FnPieces.j5 kj58 (wrap64 (t297 - 10)) x15_3 x16_3 t332 bt360.1 t291 t292 t293 t294 t295 t305 t306 t307 t308 t309 bt342.1 bt342.2.1 bt342.2.2.1 bt342.2.2.2.1 bt348.1 bt348.2.1 bt348.2.2.1 bt348.2.2.2.1 bt354.1 bt354.2.1 bt354.2.2.1 bt354.2.2.2.1) else (none)) else (none)) else (none)) else (none))) else (none)) else (none)) else (none))) else (none)) else (none))) else (none))) else (none)) else (none))))))))) = some r := H
    have A74 := Aside0.mk A740
    clear A740
    replace H := zob H
    obtain ⟨⟨t334, t335⟩, A750, H⟩ := H
    replace H : ((impl_HitsFrom.f kj58 t291 t292 t293 t294 t295 x16_3).bind fun bt336 => ((spec_HitsFrom.f kj58 t291 t292 t293 t294 t295 x16_3).bind fun bt342 => ((impl_HitsFrom.f kj58 t305 t306 t307 t308 t309 (Int.tmod (wrap64 ((wrap64 (x16_3 + (wrap64 (t297 - 10)))) + 12)) 4)).bind fun bt348 => ((spec_HitsFrom.f kj58 t305 t306 t307 t308 t309 x16_3).bind fun bt354 => ((spec_FallsFrom.f kj58 t305 t306 t307 t308 t309 x16_3).bind fun bt360 => ((impl_OppositeSide.f x16_3).bind fun bt362 => (if t331 = t333 then (if t331 = 0 then (if (t330 != t332) = true then (none) else (if t335 = 0 then (if (t334 != t332) = true then (none) else (if bt336.2.2.2.2 = bt342.2.2.2.2 then (if bt336.2.2.2.2 = 0 then (if (!(bt336.1 == bt342.1) || (!(bt336.2.1 == bt342.2.1) || (!(bt336.2.2.1 == bt342.2.2.1) || (!(bt336.2.2.2.1 == bt342.2.2.2.1))))) = true then (none) else (if bt348.2.2.2.2 = 0 then (if 0 ≤ x16_3 then (if x16_3 < 4 then (if rdOf false [bt342.1, bt342.2.1, bt342.2.2.1, bt342.2.2.2.1] x16_3 = true then (none) else (if bt354.2.2.2.2 = 0 then (if bt360.2 = 0 then (if bt362.2 = 0 then (if bt362.1 = (Int.tmod (wrap64 (x16_3 + 2)) 4) then (laws_FnPieces.j5 kj58 (wrap64 (t297 - 10)) x15_3 x16_3 t332 bt360.1 t291 t292 t293 t294 t295 t305 t306 t307 t308 t309 bt342.1 bt342.2.1 bt342.2.2.1 bt342.2.2.2.1 bt348.1 bt348.2.1 bt348.2.2.1 bt348.2.2.2.1 bt354.1 bt354.2.1 bt354.2.2.1 bt354.2.2.2.1) else (none)) else (none)) else (none)) else (none))) else (none)) else (none)) else (none))) else (none)) else (none))) else (none))) else (none)) else (none)))))))) = some r := H
    have A75 := Aside0.mk A750
    clear A750
    replace H := zob H
    obtain ⟨⟨t336, t337, t338, t339, t340⟩, A760, H⟩ := H
    replace H : ((spec_HitsFrom.f kj58 t291 t292 t293 t294 t295 x16_3).bind fun bt342 => ((impl_HitsFrom.f kj58 t305 t306 t307 t308 t309 (Int.tmod (wrap64 ((wrap64 (x16_3 + (wrap64 (t297 - 10)))) + 12)) 4)).bind fun bt348 => ((spec_HitsFrom.f kj58 t305 t306 t307 t308 t309 x16_3).bind fun bt354 => ((spec_FallsFrom.f kj58 t305 t306 t307 t308 t309 x16_3).bind fun bt360 => ((impl_OppositeSide.f x16_3).bind fun bt362 => (if t331 = t333 then (if t331 = 0 then (if (t330 != t332) = true then (none) else (if t335 = 0 then (if (t334 != t332) = true then (none) else (if t340 = bt342.2.2.2.2 then (if t340 = 0 then (if (!(t336 == bt342.1) || (!(t337 == bt342.2.1) || (!(t338 == bt342.2.2.1) || (!(t339 == bt342.2.2.2.1))))) = true then (none) else (if bt348.2.2.2.2 = 0 then (if 0 ≤ x16_3 then (if x16_3 < 4 then (if rdOf false [bt342.1, bt342.2.1, bt342.2.2.1, bt342.2.2.2.1] x16_3 = true then (none) else (if bt354.2.2.2.2 = 0 then (if bt360.2 = 0 then (if bt362.2 = 0 then (if bt362.1 = (Int.tmod (wrap64 (x16_3 + 2)) 4) then (laws_FnPieces.j5 kj58 (wrap64 (t297 - 10)) x15_3 x16_3 t332 bt360.1 t291 t292 t293 t294 t295 t305 t306 t307 t308 t309 bt342.1 bt342.2.1 bt342.2.2.1 bt342.2.2.2.1 bt348.1 bt348.2.1 bt348.2.2.1 bt348.2.2.2.1 bt354.1 bt354.2.1 bt354.2.2.1 bt354.2.2.2.1) else (none)) else (none)) else (none)) else (none))) else (none)) else (none)) else (none))) else (none)) else (none))) else (none))) else (none)) else (none))))))) = some r := H
    have A76 := Aside0.mk A760
    clear A760
    replace H := zob H
    obtain ⟨⟨t342, t343, t344, t345, t346⟩, A770, H⟩ := H
    replace H : ((impl_HitsFrom.f kj58 t305 t306 t307 t308 t309 (Int.tmod (wrap64 ((wrap64 (x16_3 + (wrap64 (t297 - 10)))) + 12)) 4)).bind fun bt348 => ((spec_HitsFrom.f kj58 t305 t306 t307 t308 t309 x16_3).bind fun bt354 => ((spec_FallsFrom.f kj58 t305 t306 t307 t308 t309 x16_3).bind fun bt360 => ((impl_OppositeSide.f x16_3).bind fun bt362 => (if t331 = t333 then (if t331 = 0 then (if (t330 != t332) = true then (none) else (if t335 = 0 then (if (t334 != t332) = true then (none) else (if t340 = t346 then (if t340 = 0 then (if (!(t336 == t342) || (!(t337 == t343) || (!(t338 == t344) || (!(t339 == t345))))) = true then (none) else (if bt348.2.2.2.2 = 0 then (if 0 ≤ x16_3 then (if x16_3 < 4 then (if rdOf false [t342, t343, t344, t345] x16_3 = true then (none) else (if bt354.2.2.2.2 = 0 then (if bt360.2 = 0 then (if bt362.2 = 0 then (if bt362.1 = (Int.tmod (wrap64 (x16_3 + 2)) 4) then (laws_FnPieces.j5 kj58 (wrap64 (t297 - 10)) x15_3 x16_3 t332 bt360.1 t291 t292 t293 t294 t295 t305 t306 t307 t308 t309 t342 t343 t344 t345 bt348.1 bt348.2.1 bt348.2.2.1 bt348.2.2.2.1 bt354.1 bt354.2.1 bt354.2.2.1 bt354.2.2.2.1) else (none)) else (none)) else (none)) else (none))) else (none)) else (none)) else (none))) else (none)) else (none))) else (none))) else (none)) else (none)))))) = some r := H
    have A77 := Aside0.mk A770
    clear A770
    replace H := zob H
    obtain ⟨⟨t348, t349, t350, t351, t352⟩, A780, H⟩ := H
    replace H : ((spec_HitsFrom.f kj58 t305 t306 t307 t308 t309 x16_3).bind fun bt354 => ((spec_FallsFrom.f kj58 t305 t306 t307 t308 t309 x16_3).bind fun bt360 => ((impl_OppositeSide.f x16_3).bind fun bt362 => (if t331 = t333 then (if t331 = 0 then (if (t330 != t332) = true then (none) else (if t335 = 0 then (if (t334 != t332) = true then (none) else (if t340 = t346 then (if t340 = 0 then (if (!(t336 == t342) || (!(t337 == t343) || (!(t338 == t344) || (!(t339 == t345))))) = true then (none) else (if t352 = 0 then (if 0 ≤ x16_3 then (if x16_3 < 4 then (if rdOf false [t342, t343, t344, t345] x16_3 = true then (none) else (if bt354.2.2.2.2 = 0 then (if bt360.2 = 0 then (if bt362.2 = 0 then (if bt362.1 = (Int.tmod (wrap64 (x16_3 + 2)) 4) then (laws_FnPieces.j5 kj58 (wrap64 (t297 - 10)) x15_3 x16_3 t332 bt360.1 t291 t292 t293 t294 t295 t305 t306 t307 t308 t309 t342 t343 t344 t345 t348 t349 t350 t351 bt354.1 bt354.2.1 bt354.2.2.1 bt354.2.2.2.1) else (none)) else (none)) else (none)) else (none))) else (none)) else (none)) else (none))) else (none)) else (none))) else (none))) else (none)) else (none))))) = some r := H
    have A78 := Aside0.mk A780
    clear A780
    replace H := zob H
    obtain ⟨⟨t354, t355, t356, t357, t358⟩, A790, H⟩ := H
    replace H : ((spec_FallsFrom.f kj58 t305 t306 t307 t308 t309 x16_3).bind fun bt360 => ((impl_OppositeSide.f x16_3).bind fun bt362 => (if t331 = t333 then (if t331 = 0 then (if (t330 != t332) = true then (none) else (if t335 = 0 then (if (t334 != t332) = true then (none) else (if t340 = t346 then (if t340 = 0 then (if (!(t336 == t342) || (!(t337 == t343) || (!(t338 == t344) || (!(t339 == t345))))) = true then (none) else (if t352 = 0 then (if 0 ≤ x16_3 then (if x16_3 < 4 then (if rdOf false [t342, t343, t344, t345] x16_3 = true then (none) else (if t358 = 0 then (if bt360.2 = 0 then (if bt362.2 = 0 then (if bt362.1 = (Int.tmod (wrap64 (x16_3 + 2)) 4) then (laws_FnPieces.j5 kj58 (wrap64 (t297 - 10)) x15_3 x16_3 t332 bt360.1 t291 t292 t293 t294 t295 t305 t306 t307 t308 t309 t342 t343 t344 t345 t348 t349 t350 t351 t354 t355 t356 t357) else (none)) else (none)) else (none)) else (none))) else (none)) else (none)) else (none))) else (none)) else (none))) else (none))) else (none)) else (none)))) = some r := H
    have A79 := Aside0.mk A790
    clear A790
    replace H := zob H
    obtain ⟨⟨t360, t361⟩, A800, H⟩ := H
    replace H : ((impl_OppositeSide.f x16_3).bind fun bt362 => (if t331 = t333 then (if t331 = 0 then (if (t330 != t332) = true then (none) else (if t335 = 0 then (if (t334 != t332) = true then (none) else (if t340 = t346 then (if t340 = 0 then (if (!(t336 == t342) || (!(t337 == t343) || (!(t338 == t344) || (!(t339 == t345))))) = true then (none) else (if t352 = 0 then (if 0 ≤ x16_3 then (if x16_3 < 4 then (if rdOf false [t342, t343, t344, t345] x16_3 = true then (none) else (if t358 = 0 then (if t361 = 0 then (if bt362.2 = 0 then (if bt362.1 = (Int.tmod (wrap64 (x16_3 + 2)) 4) then (laws_FnPieces.j5 kj58 (wrap64 (t297 - 10)) x15_3 x16_3 t332 t360 t291 t292 t293 t294 t295 t305 t306 t307 t308 t309 t342 t343 t344 t345 t348 t349 t350 t351 t354 t355 t356 t357) else (none)) else (none)) else (none)) else (none))) else (none)) else (none)) else (none))) else (none)) else (none))) else (none))) else (none)) else (none))) = some r := H
    have A80 := Aside0.mk A800
    clear A800
    replace H := zob H
    obtain ⟨⟨t362, t363⟩, A810, H⟩ := H
    replace H : (if t331 = t333 then (if t331 = 0 then (if (t330 != t332) = true then (none) else (if t335 = 0 then (if (t334 != t332) = true then (none) else (if t340 = t346 then (if t340 = 0 then (if (!(t336 == t342) || (!(t337 == t343) || (!(t338 == t344) || (!(t339 == t345))))) = true then (none) else (if t352 = 0 then (if 0 ≤ x16_3 then (if x16_3 < 4 then (if rdOf false [t342, t343, t344, t345] x16_3 = true then (none) else (if t358 = 0 then (if t361 = 0 then (if t363 = 0 then (if t362 = (Int.tmod (wrap64 (x16_3 + 2)) 4) then (laws_FnPieces.j5 kj58 (wrap64 (t297 - 10)) x15_3 x16_3 t332 t360 t291 t292 t293 t294 t295 t305 t306 t307 t308 t309 t342 t343 t344 t345 t348 t349 t350 t351 t354 t355 t356 t357) else (none)) else (none)) else (none)) else (none))) else (none)) else (none)) else (none))) else (none)) else (none))) else (none))) else (none)) else (none)) = some r := H
    have A81 := Aside0.mk A810
    clear A810
    by_cases c82 : t331 = t333
    rotate_left
    ·rw [if_neg c82] at H
     exact absurd H (by simp)
    rw [if_pos c82] at H
    have c82b0 : (t331 == t333) = true := beq_iff_eq.mpr c82
    have c82b1 : (t331 != t333) = false := bne_eq_false_iff_eq.mpr c82
    clear c82
    by_cases c83 : t331 = 0
    rotate_left
    ·rw [if_neg c83] at H
     exact absurd H (by simp)
    rw [if_pos c83] at H
    have c83b0 : (t331 == 0) = true := beq_iff_eq.mpr c83
    have c83b1 : (t331 != 0) = false := bne_eq_false_iff_eq.mpr c83
    clear c83
    by_cases c84 : (t330 != t332) = true
    ·rw [if_pos c84] at H
     exact absurd H (by simp)
    rw [if_neg c84] at H
    have c84b0 : (t330 != t332) = false := by simpa using c84
    (try (have c84b1 : decide (t330 = t332) = true := by first | (simpa using c84) | (have h_ := c84; revert h_; cases t330 <;> cases t332 <;> decide)))
    (try (have c84b2 : (t330 == t332) = true := by first | (simpa using c84) | (have h_ := c84; revert h_; cases t330 <;> cases t332 <;> decide)))
    clear c84
    by_cases c85 : t335 = 0
    rotate_left
    ·rw [if_neg c85] at H
     exact absurd H (by simp)
    rw [if_pos c85] at H
    have c85b0 : (t335 == 0) = true := beq_iff_eq.mpr c85
    have c85b1 : (t335 != 0) = false := bne_eq_false_iff_eq.mpr c85
    clear c85
    by_cases c86 : (t334 != t332) = true
    ·rw [if_pos c86] at H
     exact absurd H (by simp)
    rw [if_neg c86] at H
    have c86b0 : (t334 != t332) = false := by simpa using c86
    (try (have c86b1 : decide (t334 = t332) = true := by first | (simpa using c86) | (have h_ := c86; revert h_; cases t334 <;> cases t332 <;> decide)))
    (try (have c86b2 : (t334 == t332) = true := by first | (simpa using c86) | (have h_ := c86; revert h_; cases t334 <;> cases t332 <;> decide)))
    clear c86
    by_cases c87 : t340 = t346
    rotate_left
    ·rw [if_neg c87] at H
     exact absurd H (by simp)
    rw [if_pos c87] at H
    have c87b0 : (t340 == t346) = true := beq_iff_eq.mpr c87
    have c87b1 : (t340 != t346) = false := bne_eq_false_iff_eq.mpr c87
    clear c87
    by_cases c88 : t340 = 0
    rotate_left
    ·rw [if_neg c88] at H
     exact absurd H (by simp)
    rw [if_pos c88] at H
    have c88b0 : (t340 == 0) = true := beq_iff_eq.mpr c88
    have c88b1 : (t340 != 0) = false := bne_eq_false_iff_eq.mpr c88
    clear c88
    by_cases c89 : (!(t336 == t342) || (!(t337 == t343) || (!(t338 == t344) || (!(t339 == t345))))) = true
    ·rw [if_pos c89] at H
     exact absurd H (by simp)
    rw [if_neg c89] at H
    have c89b0 : (!(t336 == t342) || (!(t337 == t343) || (!(t338 == t344) || (!(t339 == t345))))) = false := by simpa using c89
    clear c89
    by_cases c90 : t352 = 0
    rotate_left
    ·rw [if_neg c90] at H
     exact absurd H (by simp)
    rw [if_pos c90] at H
    have c90b0 : (t352 == 0) = true := beq_iff_eq.mpr c90
    have c90b1 : (t352 != 0) = false := bne_eq_false_iff_eq.mpr c90
    clear c90
    by_cases c91 : 0 ≤ x16_3
    rotate_left
    ·rw [if_neg c91] at H
     exact absurd H (by simp)
    rw [if_pos c91] at H
    have c91b0 : decide (0 ≤ x16_3) = true := decide_eq_true c91
    clear c91
    by_cases c92 : x16_3 < 4
    rotate_left
    ·rw [if_neg c92] at H
     exact absurd H (by simp)
    rw [if_pos c92] at H
    have c92b0 : decide (x16_3 < 4) = true := decide_eq_true c92
    clear c92
    have ar93l : 0 ≤ x16_3 := of_decide_eq_true (by first | (with_reducible assumption) | assumption | exact decide_eq_true (by omega))
    have ar93h : x16_3 < 4 := of_decide_eq_true (by first | (with_reducible assumption) | assumption | exact decide_eq_true (by omega))
    have ar93r : ∀ (W_ : World) (g_ : Nat), W_.cell? ⟨g_, 0, none⟩ = some (.bool t342) → W_.cell? ⟨g_, 1, none⟩ = some (.bool t343) → W_.cell? ⟨g_, 2, none⟩ = some (.bool t344) → W_.cell? ⟨g_, 3, none⟩ = some (.bool t345) → W_.cell? ⟨g_, (x16_3 : Int).toNat, none⟩ = some (.bool (rdOf false [t342, t343, t344, t345] x16_3)) := by
     intro W_ g_ q0_ q1_ q2_ q3_
     have h_ : x16_3 = 0 ∨ x16_3 = 1 ∨ x16_3 = 2 ∨ x16_3 = 3 := by omega
     rcases h_ with h_ | h_ | h_ | h_ <;> (rw [h_]; first | exact q0_ | exact q1_ | exact q2_ | exact q3_)
    replace ar93r := Aside0.mk ar93r
    have ar93L := eq_true ar93l
    have ar93H := eq_true ar93h
    clear ar93l ar93h
    obtain ⟨bq94, hbq94⟩ : ∃ b_ : Bool, b_ = (rdOf false [t342, t343, t344, t345] x16_3) := ⟨_, rfl⟩
    replace H : (if bq94 = true then (none) else (if t358 = 0 then (if t361 = 0 then (if t363 = 0 then (if t362 = (Int.tmod (wrap64 (x16_3 + 2)) 4) then (laws_FnPieces.j5 kj58 (wrap64 (t297 - 10)) x15_3 x16_3 t332 t360 t291 t292 t293 t294 t295 t305 t306 t307 t308 t309 t342 t343 t344 t345 t348 t349 t350 t351 t354 t355 t356 t357) else (none)) else (none)) else (none)) else (none))) = some r := by rw [← hbq94] at H; exact H
    have Nbq94 := Aside0.mk hbq94
    clear hbq94
    by_cases c95 : bq94 = true
    ·subst c95
     have H1 : (none) = some r := by rw [if_pos rfl] at H; exact H
     clear H
     have H := H1
     clear H1
     exact absurd H (by simp)
    replace c95 := Bool.eq_false_iff.mpr c95
    subst c95
    have H1 : (if t358 = 0 then (if t361 = 0 then (if t363 = 0 then (if t362 = (Int.tmod (wrap64 (x16_3 + 2)) 4) then (laws_FnPieces.j5 kj58 (wrap64 (t297 - 10)) x15_3 x16_3 t332 t360 t291 t292 t293 t294 t295 t305 t306 t307 t308 t309 t342 t343 t344 t345 t348 t349 t350 t351 t354 t355 t356 t357) else (none)) else (none)) else (none)) else (none)) = some r := by rw [if_neg (show ¬ (false = true) by decide)] at H; exact H
    clear H
    have H := H1
    clear H1
    by_cases c96 : t358 = 0
    rotate_left
    ·rw [if_neg c96] at H
     exact absurd H (by simp)
    rw [if_pos c96] at H
    have c96b0 : (t358 == 0) = true := beq_iff_eq.mpr c96
    have c96b1 : (t358 != 0) = false := bne_eq_false_iff_eq.mpr c96
    clear c96
    by_cases c97 : t361 = 0
    rotate_left
    ·rw [if_neg c97] at H
     exact absurd H (by simp)
    rw [if_pos c97] at H
    have c97b0 : (t361 == 0) = true := beq_iff_eq.mpr c97
    have c97b1 : (t361 != 0) = false := bne_eq_false_iff_eq.mpr c97
    clear c97
    by_cases c98 : t363 = 0
    rotate_left
    ·rw [if_neg c98] at H
     exact absurd H (by simp)
    rw [if_pos c98] at H
    have c98b0 : (t363 == 0) = true := beq_iff_eq.mpr c98
    have c98b1 : (t363 != 0) = false := bne_eq_false_iff_eq.mpr c98
    clear c98
    have HC99 := Aside0.mk H
    clear H
    have hnb100 := NB296_304.out
    have hnc100 := NB304_296.out
    have hnb101 := NB296_311.out
    have hnc101 := NB311_296.out
    have hnb102 := NB296_318.out
    have hnc102 := NB318_296.out
    have hnb103 := NB296_325.out
    have hnc103 := NB325_296.out
    obtain ⟨z104_0, z104_1, z104_2, z104_3, z104_4, y104_0, y104_1, y104_2, y104_3, y104_4⟩ := zB5 BK296
    (try (have ar93v := ar93r.out _ _ (by assumption) (by assumption) (by assumption) (by assumption); (try rw [← Nbq94.out] at ar93v)))
    go_upto_if 235 with (first | (go_at_call 10; (with_reducible refine (impl_FallsFrom.calls kj58 t291 t292 t293 t294 t295 x16_3 t330 t331 _ A73.out).mono ?_); rintro e w105 ⟨rfl, hb⟩; have n_ : _ ∧ _ ∧ _ ∧ _ ∧ _ ∧ _ := ⟨zk BK296 hb, zk BK304 hb, zk BK311 hb, zk BK318 hb, zk BK325 hb, zbs hb⟩; clear BK296 BK304 BK311 BK318 BK325 HB; obtain ⟨BK296, BK304, BK311, BK318, BK325, HB⟩ := n_; (try clear hb); (try clear hb2); (try clear hk); (try clear hi); obtain ⟨z106_0, z106_1, z106_2, z106_3, z106_4, y106_0, y106_1, y106_2, y106_3, y106_4⟩ := zB5 BK296; (try (have ar93v := ar93r.out _ _ (by assumption) (by assumption) (by assumption) (by assumption); (try rw [← Nbq94.out] at ar93v)))) | (go_at_call 11; (with_reducible refine (spec_FallsFrom.calls kj58 t291 t292 t293 t294 t295 x16_3 t332 t333 _ A74.out).mono ?_); rintro e w107 ⟨rfl, hb⟩; have n_ : _ ∧ _ ∧ _ ∧ _ ∧ _ ∧ _ := ⟨zk BK296 hb, zk BK304 hb, zk BK311 hb, zk BK318 hb, zk BK325 hb, zbs hb⟩; clear BK296 BK304 BK311 BK318 BK325 HB; obtain ⟨BK296, BK304, BK311, BK318, BK325, HB⟩ := n_; (try clear hb); (try clear hb2); (try clear hk); (try clear hi); have hnb108 := NB311_304.out; have hnc108 := NB304_311.out; have hnb109 := NB311_318.out; have hnc109 := NB318_311.out; have hnb110 := NB311_325.out; have hnc110 := NB325_311.out; obtain ⟨z111_0, z111_1, z111_2, z111_3, z111_4, y111_0, y111_1, y111_2, y111_3, y111_4⟩ := zB5 BK311; (try (have ar93v := ar93r.out _ _ (by assumption) (by assumption) (by assumption) (by assumption); (try rw [← Nbq94.out] at ar93v)))) | (go_at_call 10; (with_reducible refine (impl_FallsFrom.calls kj58 t305 t306 t307 t308 t309 (Int.tmod (wrap64 ((wrap64 (x16_3 + (wrap64 (t297 - 10)))) + 12)) 4) t334 t335 _ A75.out).mono ?_); rintro e w112 ⟨rfl, hb⟩; have n_ : _ ∧ _ ∧ _ ∧ _ ∧ _ ∧ _ := ⟨zk BK296 hb, zk BK304 hb, zk BK311 hb, zk BK318 hb, zk BK325 hb, zbs hb⟩; clear BK296 BK304 BK311 BK318 BK325 HB; obtain ⟨BK296, BK304, BK311, BK318, BK325, HB⟩ := n_; (try clear hb); (try clear hb2); (try clear hk); (try clear hi); obtain ⟨z113_0, z113_1, z113_2, z113_3, z113_4, y113_0, y113_1, y113_2, y113_3, y113_4⟩ := zB5 BK296; (try (have ar93v := ar93r.out _ _ (by assumption) (by assumption) (by assumption) (by assumption); (try rw [← Nbq94.out] at ar93v)))) | (go_at_call 12; (with_reducible refine (impl_HitsFrom.calls kj58 t291 t292 t293 t294 t295 x16_3 t336 t337 t338 t339 t340 _ A76.out).mono ?_); rintro e w114 ⟨rfl, hb⟩; have n_ : _ ∧ _ ∧ _ ∧ _ ∧ _ ∧ _ := ⟨zk BK296 hb, zk BK304 hb, zk BK311 hb, zk BK318 hb, zk BK325 hb, zbs hb⟩; clear BK296 BK304 BK311 BK318 BK325 HB; obtain ⟨BK296, BK304, BK311, BK318, BK325, HB⟩ := n_; (try clear hb); (try clear hb2); (try clear hk); (try clear hi); (try (have ar93v := ar93r.out _ _ (by assumption) (by assumption) (by assumption) (by assumption); (try rw [← Nbq94.out] at ar93v)))) | ((with_reducible refine gate_dst (N := 24) rfl ?_); refine zbx 24 #[.bool false, .bool false, .bool false, .bool false] 36 ?_; intro gb341 hg w115 hbox hb; have n_ : _ ∧ _ ∧ _ ∧ _ ∧ _ ∧ _ ∧ _ ∧ _ ∧ _ ∧ _ ∧ _ ∧ _ ∧ _ ∧ _ ∧ _ ∧ _ ∧ _ ∧ _ ∧ _ := ⟨zk BK296 hb, zk BK304 hb, zk BK311 hb, zk BK318 hb, zk BK325 hb, zbs hb, Aside0.mk (hbox), zg HB hg, zg HB hg, zn1 BK296 hg, zn2 BK296 hg, zn1 BK304 hg, zn2 BK304 hg, zn1 BK311 hg, zn2 BK311 hg, zn1 BK318 hg, zn2 BK318 hg, zn1 BK325 hg, zn2 BK325 hg⟩; clear BK296 BK304 BK311 BK318 BK325 HB; obtain ⟨BK296, BK304, BK311, BK318, BK325, HB, BK341, GW341, GE341, NB296_341, NB341_296, NB304_341, NB341_304, NB311_341, NB341_311, NB318_341, NB341_318, NB325_341, NB341_325⟩ := n_; clear hb hbox hg; have hnb116 := NB341_296.out; have hnc116 := NB296_341.out; have hnb117 := NB341_304.out; have hnc117 := NB304_341.out; have hnb118 := NB341_311.out; have hnc118 := NB311_341.out; have hnb119 := NB341_318.out; have hnc119 := NB318_341.out; have hnb120 := NB341_325.out; have hnc120 := NB325_341.out; obtain ⟨z121_0, z121_1, z121_2, z121_3, y121_0, y121_1, y121_2, y121_3⟩ := zB4 BK341; obtain ⟨z122_0, z122_1, z122_2, z122_3, z122_4, y122_0, y122_1, y122_2, y122_3, y122_4⟩ := zB5 BK296; (try (have ar93v := ar93r.out _ _ (by assumption) (by assumption) (by assumption) (by assumption); (try rw [← Nbq94.out] at ar93v)))) | (go_at_call 13; (with_reducible refine (spec_HitsFrom.calls kj58 t291 t292 t293 t294 t295 x16_3 t342 t343 t344 t345 t346 _ A77.out).mono ?_); rintro e w123 ⟨rfl, hb⟩; have n_ : _ ∧ _ ∧ _ ∧ _ ∧ _ ∧ _ ∧ _ := ⟨zfb BK296 NB296_341 hb, zfb BK304 NB304_341 hb, zfb BK311 NB311_341 hb, zfb BK318 NB318_341 hb, zfb BK325 NB325_341 hb, Aside0.mk (blk_below (g := gb341) (o := .cells #[.bool t336, .bool t337, .bool t338, .bool t339] 36 (0, 0)) (zp BK341) hb), zbs hb⟩; clear BK296 BK304 BK311 BK318 BK325 BK341 HB; obtain ⟨BK296, BK304, BK311, BK318, BK325, BK341, HB⟩ := n_; (try clear hb); (try clear hb2); (try clear hk); (try clear hi); (try (have ar93v := ar93r.out _ _ (by assumption) (by assumption) (by assumption) (by assumption); (try rw [← Nbq94.out] at ar93v)))) | ((with_reducible refine gate_dst (N := 26) rfl ?_); refine zbx 26 #[.bool false, .bool false, .bool false, .bool false] 36 ?_; intro gb347 hg w124 hbox hb; have n_ : _ ∧ _ ∧ _ ∧ _ ∧ _ ∧ _ ∧ _ ∧ _ ∧ _ ∧ _ ∧ _ ∧ _ ∧ _ ∧ _ ∧ _ ∧ _ ∧ _ ∧ _ ∧ _ ∧ _ ∧ _ ∧ _ := ⟨zk BK296 hb, zk BK304 hb, zk BK311 hb, zk BK318 hb, zk BK325 hb, zk BK341 hb, zbs hb, Aside0.mk (hbox), zg HB hg, zg HB hg, zn1 BK296 hg, zn2 BK296 hg, zn1 BK304 hg, zn2 BK304 hg, zn1 BK311 hg, zn2 BK311 hg, zn1 BK318 hg, zn2 BK318 hg, zn1 BK325 hg, zn2 BK325 hg, zn1 BK341 hg, zn2 BK341 hg⟩; clear BK296 BK304 BK311 BK318 BK325 BK341 HB; obtain ⟨BK296, BK304, BK311, BK318, BK325, BK341, HB, BK347, GW347, GE347, NB296_347, NB347_296, NB304_347, NB347_304, NB311_347, NB347_311, NB318_347, NB347_318, NB325_347, NB347_325, NB341_347, NB347_341⟩ := n_; clear hb hbox hg; have hnb125 := NB347_296.out; have hnc125 := NB296_347.out; have hnb126 := NB347_304.out; have hnc126 := NB304_347.out; have hnb127 := NB347_311.out; have hnc127 := NB311_347.out; have hnb128 := NB347_318.out; have hnc128 := NB318_347.out; have hnb129 := NB347_325.out; have hnc129 := NB325_347.out; have hnb130 := NB347_341.out; have hnc130 := NB341_347.out; obtain ⟨z131_0, z131_1, z131_2, z131_3, y131_0, y131_1, y131_2, y131_3⟩ := zB4 BK347; obtain ⟨z132_0, z132_1, z132_2, z132_3, z132_4, y132_0, y132_1, y132_2, y132_3, y132_4⟩ := zB5 BK311; (try (have ar93v := ar93r.out _ _ (by assumption) (by assumption) (by assumption) (by assumption); (try rw [← Nbq94.out] at ar93v)))) | (go_at_call 12; (with_reducible refine (impl_HitsFrom.calls kj58 t305 t306 t307 t308 t309 (Int.tmod (wrap64 ((wrap64 (x16_3 + (wrap64 (t297 - 10)))) + 12)) 4) t348 t349 t350 t351 t352 _ A78.out).mono ?_); rintro e w133 ⟨rfl, hb⟩; have n_ : _ ∧ _ ∧ _ ∧ _ ∧ _ ∧ _ ∧ _ ∧ _ := ⟨zfb BK296 NB296_347 hb, zfb BK304 NB304_347 hb, zfb BK311 NB311_347 hb, zfb BK318 NB318_347 hb, zfb BK325 NB325_347 hb, zfb BK341 NB341_347 hb, Aside0.mk (blk_below (g := gb347) (o := .cells #[.bool t342, .bool t343, .bool t344, .bool t345] 36 (0, 0)) (zp BK347) hb), zbs hb⟩; clear BK296 BK304 BK311 BK318 BK325 BK341 BK347 HB; obtain ⟨BK296, BK304, BK311, BK318, BK325, BK341, BK347, HB⟩ := n_; (try clear hb); (try clear hb2); (try clear hk); (try clear hi); (try (have ar93v := ar93r.out _ _ (by assumption) (by assumption) (by assumption) (by assumption); (try rw [← Nbq94.out] at ar93v)))) | ((with_reducible refine gate_dst (N := 28) rfl ?_); refine zbx 28 #[.bool false, .bool false, .bool false, .bool false] 36 ?_; intro gb353 hg w134 hbox hb; have n_ : _ ∧ _ ∧ _ ∧ _ ∧ _ ∧ _ ∧ _ ∧ _ ∧ _ ∧ _ ∧ _ ∧ _ ∧ _ ∧ _ ∧ _ ∧ _ ∧ _ ∧ _ ∧ _ ∧ _ ∧ _ ∧ _ ∧ _ ∧ _ ∧ _ := ⟨zk BK296 hb, zk BK304 hb, zk BK311 hb, zk BK318 hb, zk BK325 hb, zk BK341 hb, zk BK347 hb, zbs hb, Aside0.mk (hbox), zg HB hg, zg HB hg, zn1 BK296 hg, zn2 BK296 hg, zn1 BK304 hg, zn2 BK304 hg, zn1 BK311 hg, zn2 BK311 hg, zn1 BK318 hg, zn2 BK318 hg, zn1 BK325 hg, zn2 BK325 hg, zn1 BK341 hg, zn2 BK341 hg, zn1 BK347 hg, zn2 BK347 hg⟩; clear BK296 BK304 BK311 BK318 BK325 BK341 BK347 HB; obtain ⟨BK296, BK304, BK311, BK318, BK325, BK341, BK347, HB, BK353, GW353, GE353, NB296_353, NB353_296, NB304_353, NB353_304, NB311_353, NB353_311, NB318_353, NB353_318, NB325_353, NB353_325, NB341_353, NB353_341, NB347_353, NB353_347⟩ := n_; clear hb hbox hg; have hnb135 := NB353_296.out; have hnc135 := NB296_353.out; have hnb136 := NB353_304.out; have hnc136 := NB304_353.out; have hnb137 := NB353_311.out; have hnc137 := NB311_353.out; have hnb138 := NB353_318.out; have hnc138 := NB318_353.out; have hnb139 := NB353_325.out; have hnc139 := NB325_353.out; have hnb140 := NB353_341.out; have hnc140 := NB341_353.out; have hnb141 := NB353_347.out; have hnc141 := NB347_353.out; obtain ⟨z142_0, z142_1, z142_2, z142_3, y142_0, y142_1, y142_2, y142_3⟩ := zB4 BK353; obtain ⟨z143_0, z143_1, z143_2, z143_3, z143_4, y143_0, y143_1, y143_2, y143_3, y143_4⟩ := zB5 BK311; (try (have ar93v := ar93r.out _ _ (by assumption) (by assumption) (by assumption) (by assumption); (try rw [← Nbq94.out] at ar93v)))) | (go_at_call 13; (with_reducible refine (spec_HitsFrom.calls kj58 t305 t306 t307 t308 t309 x16_3 t354 t355 t356 t357 t358 _ A79.out).mono ?_); rintro e w144 ⟨rfl, hb⟩; have n_ : _ ∧ _ ∧ _ ∧ _ ∧ _ ∧ _ ∧ _ ∧ _ ∧ _ := ⟨zfb BK296 NB296_353 hb, zfb BK304 NB304_353 hb, zfb BK311 NB311_353 hb, zfb BK318 NB318_353 hb, zfb BK325 NB325_353 hb, zfb BK341 NB341_353 hb, zfb BK347 NB347_353 hb, Aside0.mk (blk_below (g := gb353) (o := .cells #[.bool t348, .bool t349, .bool t350, .bool t351] 36 (0, 0)) (zp BK353) hb), zbs hb⟩; clear BK296 BK304 BK311 BK318 BK325 BK341 BK347 BK353 HB; obtain ⟨BK296, BK304, BK311, BK318, BK325, BK341, BK347, BK353, HB⟩ := n_; (try clear hb); (try clear hb2); (try clear hk); (try clear hi); (try (have ar93v := ar93r.out _ _ (by assumption) (by assumption) (by assumption) (by assumption); (try rw [← Nbq94.out] at ar93v)))) | ((with_reducible refine gate_dst (N := 30) rfl ?_); refine zbx 30 #[.bool false, .bool false, .bool false, .bool false] 36 ?_; intro gb359 hg w145 hbox hb; have n_ : _ ∧ _ ∧ _ ∧ _ ∧ _ ∧ _ ∧ _ ∧ _ ∧ _ ∧ _ ∧ _ ∧ _ ∧ _ ∧ _ ∧ _ ∧ _ ∧ _ ∧ _ ∧ _ ∧ _ ∧ _ ∧ _ ∧ _ ∧ _ ∧ _ ∧ _ ∧ _ ∧ _ := ⟨zk BK296 hb, zk BK304 hb, zk BK311 hb, zk BK318 hb, zk BK325 hb, zk BK341 hb, zk BK347 hb, zk BK353 hb, zbs hb, Aside0.mk (hbox), zg HB hg, zg HB hg, zn1 BK296 hg, zn2 BK296 hg, zn1 BK304 hg, zn2 BK304 hg, zn1 BK311 hg, zn2 BK311 hg, zn1 BK318 hg, zn2 BK318 hg, zn1 BK325 hg, zn2 BK325 hg, zn1 BK341 hg, zn2 BK341 hg, zn1 BK347 hg, zn2 BK347 hg, zn1 BK353 hg, zn2 BK353 hg⟩; clear BK296 BK304 BK311 BK318 BK325 BK341 BK347 BK353 HB; obtain ⟨BK296, BK304, BK311, BK318, BK325, BK341, BK347, BK353, HB, BK359, GW359, GE359, NB296_359, NB359_296, NB304_359, NB359_304, NB311_359, NB359_311, NB318_359, NB359_318, NB325_359, NB359_325, NB341_359, NB359_341, NB347_359, NB359_347, NB353_359, NB359_353⟩ := n_; clear hb hbox hg; have hnb146 := NB359_296.out; have hnc146 := NB296_359.out; have hnb147 := NB359_304.out; have hnc147 := NB304_359.out; have hnb148 := NB359_311.out; have hnc148 := NB311_359.out; have hnb149 := NB359_318.out; have hnc149 := NB318_359.out; have hnb150 := NB359_325.out; have hnc150 := NB325_359.out; have hnb151 := NB359_341.out; have hnc151 := NB341_359.out; have hnb152 := NB359_347.out; have hnc152 := NB347_359.out; have hnb153 := NB359_353.out; have hnc153 := NB353_359.out; obtain ⟨z154_0, z154_1, z154_2, z154_3, y154_0, y154_1, y154_2, y154_3⟩ := zB4 BK359; obtain ⟨z155_0, z155_1, z155_2, z155_3, z155_4, y155_0, y155_1, y155_2, y155_3, y155_4⟩ := zB5 BK311; (try (have ar93v := ar93r.out _ _ (by assumption) (by assumption) (by assumption) (by assumption); (try rw [← Nbq94.out] at ar93v)))) | (go_at_call 11; (with_reducible refine (spec_FallsFrom.calls kj58 t305 t306 t307 t308 t309 x16_3 t360 t361 _ A80.out).mono ?_); rintro e w156 ⟨rfl, hb⟩; have n_ : _ ∧ _ ∧ _ ∧ _ ∧ _ ∧ _ ∧ _ ∧ _ ∧ _ ∧ _ := ⟨zfb BK296 NB296_359 hb, zfb BK304 NB304_359 hb, zfb BK311 NB311_359 hb, zfb BK318 NB318_359 hb, zfb BK325 NB325_359 hb, zfb BK341 NB341_359 hb, zfb BK347 NB347_359 hb, zfb BK353 NB353_359 hb, Aside0.mk (blk_below (g := gb359) (o := .cells #[.bool t354, .bool t355, .bool t356, .bool t357] 36 (0, 0)) (zp BK359) hb), zbs hb⟩; clear BK296 BK304 BK311 BK318 BK325 BK341 BK347 BK353 BK359 HB; obtain ⟨BK296, BK304, BK311, BK318, BK325, BK341, BK347, BK353, BK359, HB⟩ := n_; (try clear hb); (try clear hb2); (try clear hk); (try clear hi); (try (have ar93v := ar93r.out _ _ (by assumption) (by assumption) (by assumption) (by assumption); (try rw [← Nbq94.out] at ar93v)))) | (go_at_call 14; (with_reducible refine (impl_OppositeSide.calls x16_3 t362 t363 _ A81.out).mono ?_); rintro e w' ⟨rfl, ⟨nd, rfl⟩⟩; (try first | exact ⟨rfl, _, World.drewN_drewN _ _ _⟩ | exact ⟨rfl, _, Eq.trans (World.drewN_drewN _ _ _) (congrArg (World.drewN _) (Nat.add_assoc _ _ _))⟩); obtain ⟨z157_0, z157_1, z157_2, z157_3, y157_0, y157_1, y157_2, y157_3⟩ := zB4 BK341; obtain ⟨z158_0, z158_1, z158_2, z158_3, y158_0, y158_1, y158_2, y158_3⟩ := zB4 BK347; (try (have ar93v := ar93r.out _ _ (by assumption) (by assumption) (by assumption) (by assumption); (try rw [← Nbq94.out] at ar93v)))))
    (try simp only [Act.put, List.setIfInBounds_toArray, List.set_cons_zero, List.set_cons_succ])
    go_cut [] (fun wc => ∃ (kq : Nat), Aside0 (laws_FnPieces.j5 kq (wrap64 (t297 - 10)) x15_3 x16_3 t332 t360 t291 t292 t293 t294 t295 t305 t306 t307 t308 t309 t342 t343 t344 t345 t348 t349 t350 t351 t354 t355 t356 t357 = some r) ∧ Aside0 (kq ≤ kj58) ∧ Aside0 (wc.heap[gb296]? = some (.cells #[.int .i8 t291, .int .i8 t292, .int .i8 t293, .int .i8 t294, .int .i8 t295] 28 (0, 0))) ∧ Aside0 (wc.heap[gb304]? = some (.cells #[.int .i8 t298, .int .i8 t299, .int .i8 t300, .int .i8 t301, .int .i8 t302] 28 (0, 0))) ∧ Aside0 (wc.heap[gb311]? = some (.cells #[.int .i8 t305, .int .i8 t306, .int .i8 t307, .int .i8 t308, .int .i8 t309] 28 (0, 0))) ∧ Aside0 (wc.heap[gb318]? = some (.cells #[.int .i8 t312, .int .i8 t313, .int .i8 t314, .int .i8 t315, .int .i8 t316] 28 (0, 0))) ∧ Aside0 (wc.heap[gb325]? = some (.cells #[.int .i8 t319, .int .i8 t320, .int .i8 t321, .int .i8 t322, .int .i8 t323] 28 (0, 0))) ∧ Aside0 (wc.heap[gb341]? = some (.cells #[.bool t336, .bool t337, .bool t338, .bool t339] 36 (0, 0))) ∧ Aside0 (wc.heap[gb347]? = some (.cells #[.bool t342, .bool t343, .bool t344, .bool t345] 36 (0, 0))) ∧ Aside0 (wc.heap[gb353]? = some (.cells #[.bool t348, .bool t349, .bool t350, .bool t351] 36 (0, 0))) ∧ Aside0 (wc.heap[gb359]? = some (.cells #[.bool t354, .bool t355, .bool t356, .bool t357] 36 (0, 0))) ∧ Aside0 (Below w.heap.size w wc))
    case first =>
     as_aux_lemma =>
      have H := HC99.out
      clear HC99
      by_cases c159 : t362 = (Int.tmod (wrap64 (x16_3 + 2)) 4)
      rotate_left
      ·rw [if_neg c159] at H
       exact absurd H (by simp)
      rw [if_pos c159] at H
      have c159b0 : (t362 == (Int.tmod (wrap64 (x16_3 + 2)) 4)) = true := beq_iff_eq.mpr c159
      have c159b1 : (t362 != (Int.tmod (wrap64 (x16_3 + 2)) 4)) = false := bne_eq_false_iff_eq.mpr c159
      clear c159
      (first | rw [c159b0] | (simp only [i64_w, i32_w]; rw [c159b0]) | (have h_ := c159b0; simp only [bne] at h_; rw [h_]) | skip)
      have H' := Aside0.mk H
      clear H
      (try (have ar93v := ar93r.out _ _ (by assumption) (by assumption) (by assumption) (by assumption); (try rw [← Nbq94.out] at ar93v)))
      go_wp2
      repeat (go_quiet (fail); try go_wp2)
      go_meet
      case rel => exact ⟨_, H', ⟨by have := HJ3.out; have := HJ21.out; have := HK3.out; have := HJ58.out; first | omega | exact Nat.le_refl _⟩, zh BK296, zh BK304, zh BK311, zh BK318, zh BK325, zh BK341, zh BK347, zh BK353, zh BK359, zba⟩
    as_aux_lemma =>
     clear HC99
     try clear c1
     try clear c2
     try clear p2
     try clear c3
     try clear c4
     try clear c5
     try clear c6
     try clear p6
     try clear c7
     try clear c8
     try clear c9
     try clear q9
     try clear c10
     try clear c11
     try clear c12
     try clear c12b0
     try clear c12b1
     try clear c13
     try clear c13b0
     try clear c13b1
     try clear c14
     try clear c14b0
     try clear c15
     try clear c15b0
     try clear c15b1
     try clear c16
     try clear c16b0
     try clear c17
     try clear c17b0
     try clear c17b1
     try clear c18
     try clear c18b0
     try clear c20
     try clear c28
     try clear c33
     try clear c34
     try clear c39
     try clear c40
     try clear c41
     try clear c46
     try clear c47
     try clear c48
     try clear c49
     try clear c58
     try clear c60
     try clear c60b0
     try clear c62
     try clear c62b0
     try clear c62b1
     try clear c63
     try clear c64
     try clear p64
     try clear c65
     try clear c66
     try clear c68
     try clear c69
     try clear c70
     try clear c82
     try clear c82b0
     try clear c82b1
     try clear c83
     try clear c83b0
     try clear c83b1
     try clear c84
     try clear c84b0
     try clear c84b1
     try clear c84b2
     try clear c85
     try clear c85b0
     try clear c85b1
     try clear c86
     try clear c86b0
     try clear c86b1
     try clear c86b2
     try clear c87
     try clear c87b0
     try clear c87b1
     try clear c88
     try clear c88b0
     try clear c88b1
     try clear c89
     try clear c89b0
     try clear c90
     try clear c90b0
     try clear c90b1
     try clear c91
     try clear c91b0
     try clear c92
     try clear c92b0
     try clear q94
     try clear c95
     try clear c96
     try clear c96b0
     try clear c96b1
     try clear c97
     try clear c97b0
     try clear c97b1
     try clear c98
     try clear c98b0
     try clear c98b1
     try clear c100
     try clear c101
     try clear c102
     try clear c103
     try clear c108
     try clear c109
     try clear c110
     try clear c116
     try clear c117
     try clear c118
     try clear c119
     try clear c120
     try clear c125
     try clear c126
     try clear c127
     try clear c128
     try clear c129
     try clear c130
     try clear c135
     try clear c136
     try clear c137
     try clear c138
     try clear c139
     try clear c140
     try clear c141
     try clear c146
     try clear c147
     try clear c148
     try clear c149
     try clear c150
     try clear c151
     try clear c152
     try clear c153
     try clear c159
     try clear c159b0
     try clear c159b1
     try clear z104_0 z104_1 z104_2 z104_3 z104_4
     try clear z106_0 z106_1 z106_2 z106_3 z106_4
     try clear z111_0 z111_1 z111_2 z111_3 z111_4
     try clear z113_0 z113_1 z113_2 z113_3 z113_4
     try clear z121_0 z121_1 z121_2 z121_3
     try clear z122_0 z122_1 z122_2 z122_3 z122_4
     try clear z131_0 z131_1 z131_2 z131_3
     try clear z132_0 z132_1 z132_2 z132_3 z132_4
     try clear z142_0 z142_1 z142_2 z142_3
     try clear z143_0 z143_1 z143_2 z143_3 z143_4
     try clear z154_0 z154_1 z154_2 z154_3
     try clear z155_0 z155_1 z155_2 z155_3 z155_4
     try clear z157_0 z157_1 z157_2 z157_3
     try clear z158_0 z158_1 z158_2 z158_3
     try clear z25_0 z25_1 z25_2 z25_3 z25_4
     try clear z29_0 z29_1 z29_2 z29_3 z29_4
     try clear z30_0 z30_1 z30_2 z30_3 z30_4
     try clear z35_0 z35_1 z35_2 z35_3 z35_4
     try clear z36_0 z36_1 z36_2 z36_3 z36_4
     try clear z42_0 z42_1 z42_2 z42_3 z42_4
     try clear z43_0 z43_1 z43_2 z43_3 z43_4
     try clear z50_0 z50_1 z50_2 z50_3 z50_4
     try clear z51_0 z51_1 z51_2 z51_3 z51_4
     try clear z52_0 z52_1 z52_2 z52_3 z52_4
     try clear z53_0 z53_1 z53_2 z53_3 z53_4
     try clear z54_0 z54_1 z54_2 z54_3 z54_4
     try clear z56_0 z56_1 z56_2 z56_3 z56_4
     try clear z67_0 z67_1 z67_2 z67_3 z67_4
     try clear z71_0 z71_1 z71_2 z71_3 z71_4
     try clear y104_0
     try clear y104_1
     try clear y104_2
     try clear y104_3
     try clear y104_4
     try clear y106_0
     try clear y106_1
     try clear y106_2
     try clear y106_3
     try clear y106_4
     try clear y111_0
     try clear y111_1
     try clear y111_2
     try clear y111_3
     try clear y111_4
     try clear y113_0
     try clear y113_1
     try clear y113_2
     try clear y113_3
     try clear y113_4
     try clear y121_0
     try clear y121_1
     try clear y121_2
     try clear y121_3
     try clear y122_0
     try clear y122_1
     try clear y122_2
     try clear y122_3
     try clear y122_4
     try clear y131_0
     try clear y131_1
     try clear y131_2
     try clear y131_3
     try clear y132_0
     try clear y132_1
     try clear y132_2
     try clear y132_3
     try clear y132_4
     try clear y142_0
     try clear y142_1
     try clear y142_2
     try clear y142_3
     try clear y143_0
     try clear y143_1
     try clear y143_2
     try clear y143_3
     try clear y143_4
     try clear y154_0
     try clear y154_1
     try clear y154_2
     try clear y154_3
     try clear y155_0
     try clear y155_1
     try clear y155_2
     try clear y155_3
     try clear y155_4
     try clear y157_0
     try clear y157_1
     try clear y157_2
     try clear y157_3
     try clear y158_0
     try clear y158_1
     try clear y158_2
     try clear y158_3
     try clear y25_0
     try clear y25_1
     try clear y25_2
     try clear y25_3
     try clear y25_4
     try clear y29_0
     try clear y29_1
     try clear y29_2
     try clear y29_3
     try clear y29_4
     try clear y30_0
     try clear y30_1
     try clear y30_2
     try clear y30_3
     try clear y30_4
     try clear y35_0
     try clear y35_1
     try clear y35_2
     try clear y35_3
     try clear y35_4
     try clear y36_0
     try clear y36_1
     try clear y36_2
     try clear y36_3
     try clear y36_4
     try clear y42_0
     try clear y42_1
     try clear y42_2
     try clear y42_3
     try clear y42_4
     try clear y43_0
     try clear y43_1
     try clear y43_2
     try clear y43_3
     try clear y43_4
     try clear y50_0
     try clear y50_1
     try clear y50_2
     try clear y50_3
     try clear y50_4
     try clear y51_0
     try clear y51_1
     try clear y51_2
     try clear y51_3
     try clear y51_4
     try clear y52_0
     try clear y52_1
     try clear y52_2
     try clear y52_3
     try clear y52_4
     try clear y53_0
     try clear y53_1
     try clear y53_2
     try clear y53_3
     try clear y53_4
     try clear y54_0
     try clear y54_1
     try clear y54_2
     try clear y54_3
     try clear y54_4
     try clear y56_0
     try clear y56_1
     try clear y56_2
     try clear y56_3
     try clear y56_4
     try clear y67_0
     try clear y67_1
     try clear y67_2
     try clear y67_3
     try clear y67_4
     try clear y71_0
     try clear y71_1
     try clear y71_2
     try clear y71_3
     try clear y71_4
     try clear p2
     try clear p6
     try clear p64
     obtain ⟨kq, HA, HJ98, BK296, BK304, BK311, BK318, BK325, BK341, BK347, BK353, BK359, HB⟩ := hcut
     cases kq with
     | zero => exact absurd HA.out (by simp [laws_FnPieces.j5])
     | succ kj98 => ?_
     have H := HA.out
     clear HA
     simp only [laws_FnPieces.j5] at H
     have H' := Aside0.mk H
     clear H
     (try (have ar93v := ar93r.out _ _ (by assumption) (by assumption) (by assumption) (by assumption); (try rw [← Nbq94.out] at ar93v)))
     go_wp2
     repeat (go_quiet (fail); try go_wp2)
     go_loopg [36] kj98 (fun kq v36 w' => ∃ (x36_6 : Int), v36 = .int .i64 x36_6 ∧ Aside0 (laws_FnPieces.l1 kq (wrap64 (t297 - 10)) x15_3 x16_3 t332 t360 x36_6 t291 t292 t293 t294 t295 t305 t306 t307 t308 t309 t342 t343 t344 t345 t348 t349 t350 t351 t354 t355 t356 t357 = some r) ∧ Aside0 (kq ≤ kj98) ∧ Aside0 (w'.heap[gb296]? = some (.cells #[.int .i8 t291, .int .i8 t292, .int .i8 t293, .int .i8 t294, .int .i8 t295] 28 (0, 0))) ∧ Aside0 (w'.heap[gb304]? = some (.cells #[.int .i8 t298, .int .i8 t299, .int .i8 t300, .int .i8 t301, .int .i8 t302] 28 (0, 0))) ∧ Aside0 (w'.heap[gb311]? = some (.cells #[.int .i8 t305, .int .i8 t306, .int .i8 t307, .int .i8 t308, .int .i8 t309] 28 (0, 0))) ∧ Aside0 (w'.heap[gb318]? = some (.cells #[.int .i8 t312, .int .i8 t313, .int .i8 t314, .int .i8 t315, .int .i8 t316] 28 (0, 0))) ∧ Aside0 (w'.heap[gb325]? = some (.cells #[.int .i8 t319, .int .i8 t320, .int .i8 t321, .int .i8 t322, .int .i8 t323] 28 (0, 0))) ∧ Aside0 (w'.heap[gb341]? = some (.cells #[.bool t336, .bool t337, .bool t338, .bool t339] 36 (0, 0))) ∧ Aside0 (w'.heap[gb347]? = some (.cells #[.bool t342, .bool t343, .bool t344, .bool t345] 36 (0, 0))) ∧ Aside0 (w'.heap[gb353]? = some (.cells #[.bool t348, .bool t349, .bool t350, .bool t351] 36 (0, 0))) ∧ Aside0 (w'.heap[gb359]? = some (.cells #[.bool t354, .bool t355, .bool t356, .bool t357] 36 (0, 0))) ∧ Aside0 (Below w.heap.size w w'))
     case atStart => exact ⟨(0), zi, H', ⟨Nat.le_refl _⟩, zh BK296, zh BK304, zh BK311, zh BK318, zh BK325, zh BK341, zh BK347, zh BK353, zh BK359, zba⟩
     as_aux_lemma =>
      clear H'
      try clear c1
      try clear c2
      try clear p2
      try clear c3
      try clear c4
      try clear c5
      try clear c6
      try clear p6
      try clear c7
      try clear c8
      try clear c9
      try clear q9
      try clear c10
      try clear c11
      try clear c12
      try clear c12b0
      try clear c12b1
      try clear c13
      try clear c13b0
      try clear c13b1
      try clear c14
      try clear c14b0
      try clear c15
      try clear c15b0
      try clear c15b1
      try clear c16
      try clear c16b0
      try clear c17
      try clear c17b0
      try clear c17b1
      try clear c18
      try clear c18b0
      try clear c20
      try clear c28
      try clear c33
      try clear c34
      try clear c39
      try clear c40
      try clear c41
      try clear c46
      try clear c47
      try clear c48
      try clear c49
      try clear c58
      try clear c60
      try clear c60b0
      try clear c62
      try clear c62b0
      try clear c62b1
      try clear c63
      try clear c64
      try clear p64
      try clear c65
      try clear c66
      try clear c68
      try clear c69
      try clear c70
      try clear c82
      try clear c82b0
      try clear c82b1
      try clear c83
      try clear c83b0
      try clear c83b1
      try clear c84
      try clear c84b0
      try clear c84b1
      try clear c84b2
      try clear c85
      try clear c85b0
      try clear c85b1
      try clear c86
      try clear c86b0
      try clear c86b1
      try clear c86b2
      try clear c87
      try clear c87b0
      try clear c87b1
      try clear c88
      try clear c88b0
      try clear c88b1
      try clear c89
      try clear c89b0
      try clear c90
      try clear c90b0
      try clear c90b1
      try clear c91
      try clear c91b0
      try clear c92
      try clear c92b0
      try clear q94
      try clear c95
      try clear c96
      try clear c96b0
      try clear c96b1
      try clear c97
      try clear c97b0
      try clear c97b1
      try clear c98
      try clear c98b0
      try clear c98b1
      try clear c100
      try clear c101
      try clear c102
      try clear c103
      try clear c108
      try clear c109
      try clear c110
      try clear c116
      try clear c117
      try clear c118
      try clear c119
      try clear c120
      try clear c125
      try clear c126
      try clear c127
      try clear c128
      try clear c129
      try clear c130
      try clear c135
      try clear c136
      try clear c137
      try clear c138
      try clear c139
      try clear c140
      try clear c141
      try clear c146
      try clear c147
      try clear c148
      try clear c149
      try clear c150
      try clear c151
      try clear c152
      try clear c153
      try clear c159
      try clear c159b0
      try clear c159b1
      try clear z104_0 z104_1 z104_2 z104_3 z104_4
      try clear z106_0 z106_1 z106_2 z106_3 z106_4
      try clear z111_0 z111_1 z111_2 z111_3 z111_4
      try clear z113_0 z113_1 z113_2 z113_3 z113_4
      try clear z121_0 z121_1 z121_2 z121_3
      try clear z122_0 z122_1 z122_2 z122_3 z122_4
      try clear z131_0 z131_1 z131_2 z131_3
      try clear z132_0 z132_1 z132_2 z132_3 z132_4
      try clear z142_0 z142_1 z142_2 z142_3
      try clear z143_0 z143_1 z143_2 z143_3 z143_4
      try clear z154_0 z154_1 z154_2 z154_3
      try clear z155_0 z155_1 z155_2 z155_3 z155_4
      try clear z157_0 z157_1 z157_2 z157_3
      try clear z158_0 z158_1 z158_2 z158_3
      try clear z25_0 z25_1 z25_2 z25_3 z25_4
      try clear z29_0 z29_1 z29_2 z29_3 z29_4
      try clear z30_0 z30_1 z30_2 z30_3 z30_4
      try clear z35_0 z35_1 z35_2 z35_3 z35_4
      try clear z36_0 z36_1 z36_2 z36_3 z36_4
      try clear z42_0 z42_1 z42_2 z42_3 z42_4
      try clear z43_0 z43_1 z43_2 z43_3 z43_4
      try clear z50_0 z50_1 z50_2 z50_3 z50_4
      try clear z51_0 z51_1 z51_2 z51_3 z51_4
      try clear z52_0 z52_1 z52_2 z52_3 z52_4
      try clear z53_0 z53_1 z53_2 z53_3 z53_4
      try clear z54_0 z54_1 z54_2 z54_3 z54_4
      try clear z56_0 z56_1 z56_2 z56_3 z56_4
      try clear z67_0 z67_1 z67_2 z67_3 z67_4
      try clear z71_0 z71_1 z71_2 z71_3 z71_4
      try clear y104_0
      try clear y104_1
      try clear y104_2
      try clear y104_3
      try clear y104_4
      try clear y106_0
      try clear y106_1
      try clear y106_2
      try clear y106_3
      try clear y106_4
      try clear y111_0
      try clear y111_1
      try clear y111_2
      try clear y111_3
      try clear y111_4
      try clear y113_0
      try clear y113_1
      try clear y113_2
      try clear y113_3
      try clear y113_4
      try clear y121_0
      try clear y121_1
      try clear y121_2
      try clear y121_3
      try clear y122_0
      try clear y122_1
      try clear y122_2
      try clear y122_3
      try clear y122_4
      try clear y131_0
      try clear y131_1
      try clear y131_2
      try clear y131_3
      try clear y132_0
      try clear y132_1
      try clear y132_2
      try clear y132_3
      try clear y132_4
      try clear y142_0
      try clear y142_1
      try clear y142_2
      try clear y142_3
      try clear y143_0
      try clear y143_1
      try clear y143_2
      try clear y143_3
      try clear y143_4
      try clear y154_0
      try clear y154_1
      try clear y154_2
      try clear y154_3
      try clear y155_0
      try clear y155_1
      try clear y155_2
      try clear y155_3
      try clear y155_4
      try clear y157_0
      try clear y157_1
      try clear y157_2
      try clear y157_3
      try clear y158_0
      try clear y158_1
      try clear y158_2
      try clear y158_3
      try clear y25_0
      try clear y25_1
      try clear y25_2
      try clear y25_3
      try clear y25_4
      try clear y29_0
      try clear y29_1
      try clear y29_2
      try clear y29_3
      try clear y29_4
      try clear y30_0
      try clear y30_1
      try clear y30_2
      try clear y30_3
      try clear y30_4
      try clear y35_0
      try clear y35_1
      try clear y35_2
      try clear y35_3
      try clear y35_4
      try clear y36_0
      try clear y36_1
      try clear y36_2
      try clear y36_3
      try clear y36_4
      try clear y42_0
      try clear y42_1
      try clear y42_2
      try clear y42_3
      try clear y42_4
      try clear y43_0
      try clear y43_1
      try clear y43_2
      try clear y43_3
      try clear y43_4
      try clear y50_0
      try clear y50_1
      try clear y50_2
      try clear y50_3
      try clear y50_4
      try clear y51_0
      try clear y51_1
      try clear y51_2
      try clear y51_3
      try clear y51_4
      try clear y52_0
      try clear y52_1
      try clear y52_2
      try clear y52_3
      try clear y52_4
      try clear y53_0
      try clear y53_1
      try clear y53_2
      try clear y53_3
      try clear y53_4
      try clear y54_0
      try clear y54_1
      try clear y54_2
      try clear y54_3
      try clear y54_4
      try clear y56_0
      try clear y56_1
      try clear y56_2
      try clear y56_3
      try clear y56_4
      try clear y67_0
      try clear y67_1
      try clear y67_2
      try clear y67_3
      try clear y67_4
      try clear y71_0
      try clear y71_1
      try clear y71_2
      try clear y71_3
      try clear y71_4
      try clear p2
      try clear p6
      try clear p64
      try clear q9
      try clear q94
      obtain ⟨x36_6, rfl, HA, HK6, BK296, BK304, BK311, BK318, BK325, BK341, BK347, BK353, BK359, HB⟩ := hrel
      cases gk with
      | zero => exact absurd HA.out (by simp [laws_FnPieces.l1])
      | succ k6 => ?_
      have H := HA.out
      clear HA
      simp only [laws_FnPieces.l1] at H
      by_cases c160 : x36_6 < 4
      rotate_left
      ·rw [if_neg c160] at H
       have c160b0 : decide (x36_6 < 4) = false := decide_eq_false c160
       clear c160
       by_cases c206 : x15_3 = true
       rotate_left
       ·replace c206 := Bool.eq_false_iff.mpr c206
        subst c206
        have H1 : (laws_FnPieces.l0 k6 (wrap64 (t297 - 10)) false (wrap64 (x16_3 + 1)) t291 t292 t293 t294 t295 t305 t306 t307 t308 t309) = some r := by rw [if_neg (show ¬ (false = true) by decide)] at H; exact H
        clear H
        have H := H1
        clear H1
        have H' := Aside0.mk H
        clear H
        (try (have ar93v := ar93r.out _ _ (by assumption) (by assumption) (by assumption) (by assumption); (try rw [← Nbq94.out] at ar93v)))
        go_wp2
        repeat (go_quiet (fail); try go_wp2)
        go_roundg k6
        case measure => have := HJ3.out; have := HJ21.out; have := HK3.out; have := HJ58.out; have := HJ98.out; have := HK6.out; omega
        case rel => exact ⟨(false), (wrap64 (x16_3 + 1)), zi, zi, H', ⟨by have := HJ3.out; have := HJ21.out; have := HK3.out; have := HJ58.out; have := HJ98.out; have := HK6.out; omega⟩, zh BK296, zh BK304, zh BK311, zh BK318, zh BK325, zba⟩
       subst c206
       have H1 : (if (t354 == t342 && (t355 == t343 && (t356 == t344 && (t357 == t345)))) = true then (laws_FnPieces.l0 k6 (wrap64 (t297 - 10)) (t360 == t332) (wrap64 (x16_3 + 1)) t291 t292 t293 t294 t295 t305 t306 t307 t308 t309) else (laws_FnPieces.l0 k6 (wrap64 (t297 - 10)) false (wrap64 (x16_3 + 1)) t291 t292 t293 t294 t295 t305 t306 t307 t308 t309)) = some r := by rw [if_pos rfl] at H; exact H
       clear H
       have H := H1
       clear H1
       by_cases c207 : (t354 == t342 && (t355 == t343 && (t356 == t344 && (t357 == t345)))) = true
       ·rw [if_pos c207] at H
        have c207b0 : (t354 == t342 && (t355 == t343 && (t356 == t344 && (t357 == t345)))) = true := c207
        (try (have c207b1 : decide (t354 = t342 && (t355 == t343 && (t356 == t344 && (t357 == t345)))) = true := by first | (simpa using c207) | (have h_ := c207; revert h_; cases t354 <;> cases t342 && (t355 == t343 && (t356 == t344 && (t357 == t345))) <;> decide)))
        (try (have c207b2 : (t354 == t342 && (t355 == t343 && (t356 == t344 && (t357 == t345)))) = true := by first | (simpa using c207) | (have h_ := c207; revert h_; cases t354 <;> cases t342 && (t355 == t343 && (t356 == t344 && (t357 == t345))) <;> decide)))
        clear c207
        have H' := Aside0.mk H
        clear H
        have hnb208 := NB359_296.out
        have hnc208 := NB296_359.out
        have hnb209 := NB359_304.out
        have hnc209 := NB304_359.out
        have hnb210 := NB359_311.out
        have hnc210 := NB311_359.out
        have hnb211 := NB359_318.out
        have hnc211 := NB318_359.out
        have hnb212 := NB359_325.out
        have hnc212 := NB325_359.out
        have hnb213 := NB359_341.out
        have hnc213 := NB341_359.out
        have hnb214 := NB359_347.out
        have hnc214 := NB347_359.out
        have hnb215 := NB359_353.out
        have hnc215 := NB353_359.out
        obtain ⟨z216_0, z216_1, z216_2, z216_3, y216_0, y216_1, y216_2, y216_3⟩ := zB4 BK359
        have hnb217 := NB347_296.out
        have hnc217 := NB296_347.out
        have hnb218 := NB347_304.out
        have hnc218 := NB304_347.out
        have hnb219 := NB347_311.out
        have hnc219 := NB311_347.out
        have hnb220 := NB347_318.out
        have hnc220 := NB318_347.out
        have hnb221 := NB347_325.out
        have hnc221 := NB325_347.out
        have hnb222 := NB347_341.out
        have hnc222 := NB341_347.out
        have hnb223 := NB347_353.out
        have hnc223 := NB353_347.out
        obtain ⟨z224_0, z224_1, z224_2, z224_3, y224_0, y224_1, y224_2, y224_3⟩ := zB4 BK347
        (try (have ar93v := ar93r.out _ _ (by assumption) (by assumption) (by assumption) (by assumption); (try rw [← Nbq94.out] at ar93v)))
        go_wp2
        repeat (go_quiet (fail); try go_wp2)
        go_roundg k6
        case measure => have := HJ3.out; have := HJ21.out; have := HK3.out; have := HJ58.out; have := HJ98.out; have := HK6.out; omega
        case rel => exact ⟨((t360 == t332)), (wrap64 (x16_3 + 1)), zi, zi, H', ⟨by have := HJ3.out; have := HJ21.out; have := HK3.out; have := HJ58.out; have := HJ98.out; have := HK6.out; omega⟩, zh BK296, zh BK304, zh BK311, zh BK318, zh BK325, zba⟩
       rw [if_neg c207] at H
       have c207b0 : (t354 == t342 && (t355 == t343 && (t356 == t344 && (t357 == t345)))) = false := by simpa using c207
       (try (have c207b1 : decide (t354 = t342 && (t355 == t343 && (t356 == t344 && (t357 == t345)))) = false := by first | (simpa using c207) | (have h_ := c207; revert h_; cases t354 <;> cases t342 && (t355 == t343 && (t356 == t344 && (t357 == t345))) <;> decide)))
       (try (have c207b2 : (t354 == t342 && (t355 == t343 && (t356 == t344 && (t357 == t345)))) = false := by first | (simpa using c207) | (have h_ := c207; revert h_; cases t354 <;> cases t342 && (t355 == t343 && (t356 == t344 && (t357 == t345))) <;> decide)))
       (try (have c207b3 : ¬ (t354 = t342 && (t355 == t343 && (t356 == t344 && (t357 == t345)))) := by simpa using c207))
       clear c207
       have H' := Aside0.mk H
       clear H
       have hnb225 := NB359_296.out
       have hnc225 := NB296_359.out
       have hnb226 := NB359_304.out
       have hnc226 := NB304_359.out
       have hnb227 := NB359_311.out
       have hnc227 := NB311_359.out
       have hnb228 := NB359_318.out
       have hnc228 := NB318_359.out
       have hnb229 := NB359_325.out
       have hnc229 := NB325_359.out
       have hnb230 := NB359_341.out
       have hnc230 := NB341_359.out
       have hnb231 := NB359_347.out
       have hnc231 := NB347_359.out
       have hnb232 := NB359_353.out
       have hnc232 := NB353_359.out
       obtain ⟨z233_0, z233_1, z233_2, z233_3, y233_0, y233_1, y233_2, y233_3⟩ := zB4 BK359
       have hnb234 := NB347_296.out
       have hnc234 := NB296_347.out
       have hnb235 := NB347_304.out
       have hnc235 := NB304_347.out
       have hnb236 := NB347_311.out
       have hnc236 := NB311_347.out
       have hnb237 := NB347_318.out
       have hnc237 := NB318_347.out
       have hnb238 := NB347_325.out
       have hnc238 := NB325_347.out
       have hnb239 := NB347_341.out
       have hnc239 := NB341_347.out
       have hnb240 := NB347_353.out
       have hnc240 := NB353_347.out
       obtain ⟨z241_0, z241_1, z241_2, z241_3, y241_0, y241_1, y241_2, y241_3⟩ := zB4 BK347
       (try (have ar93v := ar93r.out _ _ (by assumption) (by assumption) (by assumption) (by assumption); (try rw [← Nbq94.out] at ar93v)))
       go_wp2
       repeat (go_quiet (fail); try go_wp2)
       go_roundg k6
       case measure => have := HJ3.out; have := HJ21.out; have := HK3.out; have := HJ58.out; have := HJ98.out; have := HK6.out; omega
       case rel => exact ⟨(false), (wrap64 (x16_3 + 1)), zi, zi, H', ⟨by have := HJ3.out; have := HJ21.out; have := HK3.out; have := HJ58.out; have := HJ98.out; have := HK6.out; omega⟩, zh BK296, zh BK304, zh BK311, zh BK318, zh BK325, zba⟩
      rw [if_pos c160] at H
      have c160b0 : decide (x36_6 < 4) = true := decide_eq_true c160
      clear c160
      obtain ⟨ji161, hji161⟩ : ∃ j_ : Int, (Int.tmod (wrap64 ((wrap64 (x36_6 + (wrap64 (t297 - 10)))) + 12)) 4) = j_ := ⟨_, rfl⟩
      replace H : (if 0 ≤ (ji161) then (if (ji161) < 4 then (if 0 ≤ x36_6 then (if ((rdOf false [t348, t349, t350, t351] (ji161)) != (rdOf false [t342, t343, t344, t345] x36_6)) = true then (none) else (if rdOf false [t342, t343, t344, t345] x36_6 = true then (if t332 = true then (laws_FnPieces.l1 k6 (wrap64 (t297 - 10)) x15_3 x16_3 t332 t360 (wrap64 (x36_6 + 1)) t291 t292 t293 t294 t295 t305 t306 t307 t308 t309 t342 t343 t344 t345 t348 t349 t350 t351 t354 t355 t356 t357) else (none)) else (laws_FnPieces.l1 k6 (wrap64 (t297 - 10)) x15_3 x16_3 t332 t360 (wrap64 (x36_6 + 1)) t291 t292 t293 t294 t295 t305 t306 t307 t308 t309 t342 t343 t344 t345 t348 t349 t350 t351 t354 t355 t356 t357))) else (none)) else (none)) else (none)) = some r := by first | (rw [hji161] at H; exact H) | (simp only [hji161] at H ⊢; exact H)
      by_cases c162 : 0 ≤ (ji161)
      rotate_left
      ·rw [if_neg c162] at H
       exact absurd H (by simp)
      rw [if_pos c162] at H
      have c162b0 : decide (0 ≤ (ji161)) = true := decide_eq_true c162
      clear c162
      by_cases c163 : (ji161) < 4
      rotate_left
      ·rw [if_neg c163] at H
       exact absurd H (by simp)
      rw [if_pos c163] at H
      have c163b0 : decide ((ji161) < 4) = true := decide_eq_true c163
      clear c163
      have ar164l : 0 ≤ ji161 := of_decide_eq_true (by first | (with_reducible assumption) | assumption | exact decide_eq_true (by omega))
      have ar164h : ji161 < 4 := of_decide_eq_true (by first | (with_reducible assumption) | assumption | exact decide_eq_true (by omega))
      have ar164r : ∀ (W_ : World) (g_ : Nat), W_.cell? ⟨g_, 0, none⟩ = some (.bool t348) → W_.cell? ⟨g_, 1, none⟩ = some (.bool t349) → W_.cell? ⟨g_, 2, none⟩ = some (.bool t350) → W_.cell? ⟨g_, 3, none⟩ = some (.bool t351) → W_.cell? ⟨g_, (ji161 : Int).toNat, none⟩ = some (.bool (rdOf false [t348, t349, t350, t351] (ji161))) := by
       intro W_ g_ q0_ q1_ q2_ q3_
       have h_ : ji161 = 0 ∨ ji161 = 1 ∨ ji161 = 2 ∨ ji161 = 3 := by omega
       rcases h_ with h_ | h_ | h_ | h_ <;> (rw [h_]; first | exact q0_ | exact q1_ | exact q2_ | exact q3_)
      replace ar164r := Aside0.mk ar164r
      have ar164L := eq_true ar164l
      have ar164H := eq_true ar164h
      clear ar164l ar164h
      by_cases c165 : 0 ≤ x36_6
      rotate_left
      ·rw [if_neg c165] at H
       exact absurd H (by simp)
      rw [if_pos c165] at H
      have c165b0 : decide (0 ≤ x36_6) = true := decide_eq_true c165
      clear c165
      have ar166l : 0 ≤ x36_6 := of_decide_eq_true (by first | (with_reducible assumption) | assumption | exact decide_eq_true (by omega))
      have ar166h : x36_6 < 4 := of_decide_eq_true (by first | (with_reducible assumption) | assumption | exact decide_eq_true (by omega))
      have ar166r : ∀ (W_ : World) (g_ : Nat), W_.cell? ⟨g_, 0, none⟩ = some (.bool t342) → W_.cell? ⟨g_, 1, none⟩ = some (.bool t343) → W_.cell? ⟨g_, 2, none⟩ = some (.bool t344) → W_.cell? ⟨g_, 3, none⟩ = some (.bool t345) → W_.cell? ⟨g_, (x36_6 : Int).toNat, none⟩ = some (.bool (rdOf false [t342, t343, t344, t345] x36_6)) := by
       intro W_ g_ q0_ q1_ q2_ q3_
       have h_ : x36_6 = 0 ∨ x36_6 = 1 ∨ x36_6 = 2 ∨ x36_6 = 3 := by omega
       rcases h_ with h_ | h_ | h_ | h_ <;> (rw [h_]; first | exact q0_ | exact q1_ | exact q2_ | exact q3_)
      replace ar166r := Aside0.mk ar166r
      have ar166L := eq_true ar166l
      have ar166H := eq_true ar166h
      clear ar166l ar166h
      by_cases c167 : ((rdOf false [t348, t349, t350, t351] (ji161)) != (rdOf false [t342, t343, t344, t345] x36_6)) = true
      ·rw [if_pos c167] at H
       exact absurd H (by simp)
      rw [if_neg c167] at H
      have c167b0 : ((rdOf false [t348, t349, t350, t351] (ji161)) != (rdOf false [t342, t343, t344, t345] x36_6)) = false := by simpa using c167
      (try (have c167b1 : decide ((rdOf false [t348, t349, t350, t351] (ji161)) = (rdOf false [t342, t343, t344, t345] x36_6)) = true := by first | (simpa using c167) | (have h_ := c167; revert h_; cases (rdOf false [t348, t349, t350, t351] (ji161)) <;> cases (rdOf false [t342, t343, t344, t345] x36_6) <;> decide)))
      (try (have c167b2 : ((rdOf false [t348, t349, t350, t351] (ji161)) == (rdOf false [t342, t343, t344, t345] x36_6)) = true := by first | (simpa using c167) | (have h_ := c167; revert h_; cases (rdOf false [t348, t349, t350, t351] (ji161)) <;> cases (rdOf false [t342, t343, t344, t345] x36_6) <;> decide)))
      clear c167
      have ar168l : 0 ≤ x36_6 := of_decide_eq_true (by first | (with_reducible assumption) | assumption | exact decide_eq_true (by omega))
      have ar168h : x36_6 < 4 := of_decide_eq_true (by first | (with_reducible assumption) | assumption | exact decide_eq_true (by omega))
      have ar168r : ∀ (W_ : World) (g_ : Nat), W_.cell? ⟨g_, 0, none⟩ = some (.bool t342) → W_.cell? ⟨g_, 1, none⟩ = some (.bool t343) → W_.cell? ⟨g_, 2, none⟩ = some (.bool t344) → W_.cell? ⟨g_, 3, none⟩ = some (.bool t345) → W_.cell? ⟨g_, (x36_6 : Int).toNat, none⟩ = some (.bool (rdOf false [t342, t343, t344, t345] x36_6)) := by
       intro W_ g_ q0_ q1_ q2_ q3_
       have h_ : x36_6 = 0 ∨ x36_6 = 1 ∨ x36_6 = 2 ∨ x36_6 = 3 := by omega
       rcases h_ with h_ | h_ | h_ | h_ <;> (rw [h_]; first | exact q0_ | exact q1_ | exact q2_ | exact q3_)
      replace ar168r := Aside0.mk ar168r
      have ar168L := eq_true ar168l
      have ar168H := eq_true ar168h
      clear ar168l ar168h
      obtain ⟨bq169, hbq169⟩ : ∃ b_ : Bool, b_ = (rdOf false [t342, t343, t344, t345] x36_6) := ⟨_, rfl⟩
      replace H : (if bq169 = true then (if t332 = true then (laws_FnPieces.l1 k6 (wrap64 (t297 - 10)) x15_3 x16_3 t332 t360 (wrap64 (x36_6 + 1)) t291 t292 t293 t294 t295 t305 t306 t307 t308 t309 t342 t343 t344 t345 t348 t349 t350 t351 t354 t355 t356 t357) else (none)) else (laws_FnPieces.l1 k6 (wrap64 (t297 - 10)) x15_3 x16_3 t332 t360 (wrap64 (x36_6 + 1)) t291 t292 t293 t294 t295 t305 t306 t307 t308 t309 t342 t343 t344 t345 t348 t349 t350 t351 t354 t355 t356 t357)) = some r := by rw [← hbq169] at H; exact H
      have Nbq169 := Aside0.mk hbq169
      (try rw [← Nbq169.out] at c167b0)
      (try rw [← Nbq169.out] at c167b1)
      (try rw [← Nbq169.out] at c167b2)
      clear hbq169
      by_cases c170 : bq169 = true
      rotate_left
      ·replace c170 := Bool.eq_false_iff.mpr c170
       subst c170
       have H1 : (laws_FnPieces.l1 k6 (wrap64 (t297 - 10)) x15_3 x16_3 t332 t360 (wrap64 (x36_6 + 1)) t291 t292 t293 t294 t295 t305 t306 t307 t308 t309 t342 t343 t344 t345 t348 t349 t350 t351 t354 t355 t356 t357) = some r := by rw [if_neg (show ¬ (false = true) by decide)] at H; exact H
       clear H
       have H := H1
       clear H1
       have H' := Aside0.mk H
       clear H
       have hnb189 := NB353_296.out
       have hnc189 := NB296_353.out
       have hnb190 := NB353_304.out
       have hnc190 := NB304_353.out
       have hnb191 := NB353_311.out
       have hnc191 := NB311_353.out
       have hnb192 := NB353_318.out
       have hnc192 := NB318_353.out
       have hnb193 := NB353_325.out
       have hnc193 := NB325_353.out
       have hnb194 := NB353_341.out
       have hnc194 := NB341_353.out
       have hnb195 := NB353_347.out
       have hnc195 := NB347_353.out
       have hnb196 := NB353_359.out
       have hnc196 := NB359_353.out
       obtain ⟨z197_0, z197_1, z197_2, z197_3, y197_0, y197_1, y197_2, y197_3⟩ := zB4 BK353
       have hnb198 := NB347_296.out
       have hnc198 := NB296_347.out
       have hnb199 := NB347_304.out
       have hnc199 := NB304_347.out
       have hnb200 := NB347_311.out
       have hnc200 := NB311_347.out
       have hnb201 := NB347_318.out
       have hnc201 := NB318_347.out
       have hnb202 := NB347_325.out
       have hnc202 := NB325_347.out
       have hnb203 := NB347_341.out
       have hnc203 := NB341_347.out
       have hnb204 := NB347_359.out
       have hnc204 := NB359_347.out
       obtain ⟨z205_0, z205_1, z205_2, z205_3, y205_0, y205_1, y205_2, y205_3⟩ := zB4 BK347
       (try (have ar93v := ar93r.out _ _ (by assumption) (by assumption) (by assumption) (by assumption); (try rw [← Nbq94.out] at ar93v)))
       (try (have ar164v := ar164r.out _ _ (by assumption) (by assumption) (by assumption) (by assumption)))
       (try (have ar168v := ar168r.out _ _ (by assumption) (by assumption) (by assumption) (by assumption); (try rw [← Nbq169.out] at ar168v)))
       go_wp2
       repeat (go_quiet (fail); try go_wp2)
       go_roundg k6
       case measure => have := HJ3.out; have := HJ21.out; have := HK3.out; have := HJ58.out; have := HJ98.out; have := HK6.out; omega
       case rel => exact ⟨(wrap64 (x36_6 + 1)), zi, H', ⟨by have := HJ3.out; have := HJ21.out; have := HK3.out; have := HJ58.out; have := HJ98.out; have := HK6.out; omega⟩, zh BK296, zh BK304, zh BK311, zh BK318, zh BK325, zh BK341, zh BK347, zh BK353, zh BK359, zba⟩
      subst c170
      have H1 : (if t332 = true then (laws_FnPieces.l1 k6 (wrap64 (t297 - 10)) x15_3 x16_3 t332 t360 (wrap64 (x36_6 + 1)) t291 t292 t293 t294 t295 t305 t306 t307 t308 t309 t342 t343 t344 t345 t348 t349 t350 t351 t354 t355 t356 t357) else (none)) = some r := by rw [if_pos rfl] at H; exact H
      clear H
      have H := H1
      clear H1
      by_cases c171 : t332 = true
      rotate_left
      ·replace c171 := Bool.eq_false_iff.mpr c171
       subst c171
       have H1 : (none) = some r := by rw [if_neg (show ¬ (false = true) by decide)] at H; exact H
       clear H
       have H := H1
       clear H1
       exact absurd H (by simp)
      subst c171
      have H1 : (laws_FnPieces.l1 k6 (wrap64 (t297 - 10)) x15_3 x16_3 true t360 (wrap64 (x36_6 + 1)) t291 t292 t293 t294 t295 t305 t306 t307 t308 t309 t342 t343 t344 t345 t348 t349 t350 t351 t354 t355 t356 t357) = some r := by rw [if_pos rfl] at H; exact H
      clear H
      have H := H1
      clear H1
      have H' := Aside0.mk H
      clear H
      have hnb172 := NB353_296.out
      have hnc172 := NB296_353.out
      have hnb173 := NB353_304.out
      have hnc173 := NB304_353.out
      have hnb174 := NB353_311.out
      have hnc174 := NB311_353.out
      have hnb175 := NB353_318.out
      have hnc175 := NB318_353.out
      have hnb176 := NB353_325.out
      have hnc176 := NB325_353.out
      have hnb177 := NB353_341.out
      have hnc177 := NB341_353.out
      have hnb178 := NB353_347.out
      have hnc178 := NB347_353.out
      have hnb179 := NB353_359.out
      have hnc179 := NB359_353.out
      obtain ⟨z180_0, z180_1, z180_2, z180_3, y180_0, y180_1, y180_2, y180_3⟩ := zB4 BK353
      have hnb181 := NB347_296.out
      have hnc181 := NB296_347.out
      have hnb182 := NB347_304.out
      have hnc182 := NB304_347.out
      have hnb183 := NB347_311.out
      have hnc183 := NB311_347.out
      have hnb184 := NB347_318.out
      have hnc184 := NB318_347.out
      have hnb185 := NB347_325.out
      have hnc185 := NB325_347.out
      have hnb186 := NB347_341.out
      have hnc186 := NB341_347.out
      have hnb187 := NB347_359.out
      have hnc187 := NB359_347.out
      obtain ⟨z188_0, z188_1, z188_2, z188_3, y188_0, y188_1, y188_2, y188_3⟩ := zB4 BK347
      (try (have ar93v := ar93r.out _ _ (by assumption) (by assumption) (by assumption) (by assumption); (try rw [← Nbq94.out] at ar93v)))
      (try (have ar164v := ar164r.out _ _ (by assumption) (by assumption) (by assumption) (by assumption)))
      (try (have ar168v := ar168r.out _ _ (by assumption) (by assumption) (by assumption) (by assumption); (try rw [← Nbq169.out] at ar168v)))
      go_wp2
      repeat (go_quiet (fail); try go_wp2)
      go_roundg k6
      case measure => have := HJ3.out; have := HJ21.out; have := HK3.out; have := HJ58.out; have := HJ98.out; have := HK6.out; omega
      case rel => exact ⟨(wrap64 (x36_6 + 1)), zi, H', ⟨by have := HJ3.out; have := HJ21.out; have := HK3.out; have := HJ58.out; have := HJ98.out; have := HK6.out; omega⟩, zh BK296, zh BK304, zh BK311, zh BK318, zh BK325, zh BK341, zh BK347, zh BK353, zh BK359, zba⟩
/-- THE ONE PURE STATEMENT of laws_FnPieces: yours. -/
def laws_FnPieces.Pure : Prop := ∀ (l0 : List Int) (l1 : List Int), l0.length ≤ maxLen → l0.length * 1 ≤ 140737488351232 → (∀ x ∈ l0, (Lit.int .u8 x).wf = true) → l1.length ≤ maxLen → l1.length * 1 ≤ 140737488351232 → (∀ x ∈ l1, (Lit.int .u8 x).wf = true) → ∃ k, laws_FnPieces.f k l0 l1 = some true
theorem laws_FnPieces.walk (P : laws_FnPieces.Pure) (a0 : Option Addr) (len0 cap0 : Nat) (z0 : List Int) (a1 : Option Addr) (len1 cap1 : Nat) (z1 : List Int) (w : World) (w0 : (a0 = none ∧ len0 = 0 ∧ cap0 = 0 ∧ z0 = []) ∨ ∃ x, a0 = some x ∧ len0 ≤ cap0 ∧ cap0 ≤ maxLen ∧ z0.length = cap0 ∧ (∀ i, i < z0.length → w.cell? (x.add i) = some (.int .u8 (z0.getD i 0))) ∧ ∀ n ∈ z0, (Lit.int .u8 n).wf = true) (y0 : len0 * 1 ≤ 140737488351232) (w1 : (a1 = none ∧ len1 = 0 ∧ cap1 = 0 ∧ z1 = []) ∨ ∃ x, a1 = some x ∧ len1 ≤ cap1 ∧ cap1 ≤ maxLen ∧ z1.length = cap1 ∧ (∀ i, i < z1.length → w.cell? (x.add i) = some (.int .u8 (z1.getD i 0))) ∧ ∀ n ∈ z1, (Lit.int .u8 n).wf = true) (y1 : len1 * 1 ≤ 140737488351232) :
    Calls Try.prog 3 #[.slice a0 len0 cap0, .slice a1 len1 cap1] w fun e w' => e = .returned (.bool true) ∧ Below w.heap.size w w' := by
 obtain ⟨l0, rfl, hr0, hm0, hw0, hc0⟩ := ReadsInt.ofRowC w0
 obtain ⟨l1, rfl, hr1, hm1, hw1, hc1⟩ := ReadsInt.ofRowC w1
 obtain ⟨k, h⟩ := P l0 l1 hm0 y0 hw0 hm1 y1 hw1
 refine (laws_FnPieces.calls k _ _ l0 _ _ l1 true w (Kd.C_of_reads (d := (0 : Int)) (h1 := fun _ => rfl) hr0) hc0 (Kd.C_of_reads (d := (0 : Int)) (h1 := fun _ => rfl) hr1) hc1 h).mono ?_
 rintro e w' ⟨rfl, hd⟩
 exact ⟨rfl, hd⟩
end Go.Proofs.Ytjeejglobdgpjaa.PFnPieces
