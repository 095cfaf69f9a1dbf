/-
  No cell of these rows narrows 'for every input' (looked for: loops, veiled, ifaces, maps, wideKeys, modest, calm, conditions, laid).
  DERIVED. THE GIVEN ROWS OF THIS SEAT. 12 by the template 'for every input the law returns true; each argument reads behind the call as it read before'; 0 by the template 'total and deterministic' (their statements: YtkcbcbannbllaaaTotals.lean).
  GIVEN WITH THE SEED: the statements are not yours to turn. If you find one false, say at which input.
  Laid BY PROGRAM, IN A SANDBOX (cutbox-rows.mjs): the forced cells as the released guide's own fill.sh prints them over the translation 03b2fdbf76b658f3… (all of the seat's roots in one cut). By AI agents, Wed Nov 11 2026. No macro, syntax, notation, axiom, sorry.
-/
import Derived.Test.YtkcbcbannbllaaaChecked
import GoSem.Claim
import GoSem.ClaimJoined
import GoSem.ClaimMapViews
import Derived.JoinedTies
import Derived.KernelRfl
namespace Go.Proofs.Ytkcbcbannbllaaa
/- THE CELL 'sum', in the pinned program and in every row, IS THE sha256 OF THE DUMP (.gsa) THAT YtkcbcbannbllaaaProg.lean LOADS. Nothing in Lean hashes anything: it is a label: what it is worth is what the hold of that sum in a sandbox is worth. -/
noncomputable def Try.pinned : Pinned := { name := "ytkcbcbannbllaaa", sum := "03b2fdbf76b658f320f210e5204477bd9c53a0450b2e8625aa8fc3e9221a5fb2", checked := Try.checked }
namespace Rows
def none {H : Type} : Left H := { results := [], args := [] }

/-- 'laws.FnExactConstants': WHATEVER THE INPUT: true; the input reads as it did. -/
def fnExactConstantsSpec : ChangeSpec := { name := "fnExactConstants", fn := fun _ => fun
  | [] => { results := [.lit (.bool true)], args := [] }
  | _ => none }
def fnExactConstantsRow : OpenClaim := { program := "ytkcbcbannbllaaa", sum := "03b2fdbf76b658f320f210e5204477bd9c53a0450b2e8625aa8fc3e9221a5fb2", func := "loop.example/g01274/laws.FnExactConstants", spec := "fnExactConstants", apart := false }
def FnExactConstantsSaid : Prop := fnExactConstantsRow.holds Try.pinned (OpenSpec.ofChange fnExactConstantsSpec)

/-- ITS FALSE NEIGHBOUR: 'it returns false'. Refute it at one input. -/
def fnExactConstantsWrong : ChangeSpec := { name := "fnExactConstants", fn := fun _ => fun
  | [] => { results := [.lit (.bool false)], args := [] }
  | _ => none }
def FnExactConstantsWrongFalsely : Prop := fnExactConstantsRow.holds Try.pinned (OpenSpec.ofChange fnExactConstantsWrong)

/-- 'laws.FnExactCodeName': WHATEVER THE INPUT: true; the input reads as it did. -/
def fnExactCodeNameSpec : ChangeSpec := { name := "fnExactCodeName", fn := fun _ => fun
  | [d] => { results := [.lit (.bool true)], args := [d] }
  | _ => none }
def fnExactCodeNameRow : OpenClaim := { program := "ytkcbcbannbllaaa", sum := "03b2fdbf76b658f320f210e5204477bd9c53a0450b2e8625aa8fc3e9221a5fb2", func := "loop.example/g01274/laws.FnExactCodeName", spec := "fnExactCodeName", apart := false }
def FnExactCodeNameSaid : Prop := fnExactCodeNameRow.holds Try.pinned (OpenSpec.ofChange fnExactCodeNameSpec)

/-- ITS FALSE NEIGHBOUR: 'it returns false'. Refute it at one input. -/
def fnExactCodeNameWrong : ChangeSpec := { name := "fnExactCodeName", fn := fun _ => fun
  | [d] => { results := [.lit (.bool false)], args := [d] }
  | _ => none }
def FnExactCodeNameWrongFalsely : Prop := fnExactCodeNameRow.holds Try.pinned (OpenSpec.ofChange fnExactCodeNameWrong)

/-- 'laws.FnExactOppositeSide': WHATEVER THE INPUT: true; the input reads as it did. -/
def fnExactOppositeSideSpec : ChangeSpec := { name := "fnExactOppositeSide", fn := fun _ => fun
  | [d] => { results := [.lit (.bool true)], args := [d] }
  | _ => none }
def fnExactOppositeSideRow : OpenClaim := { program := "ytkcbcbannbllaaa", sum := "03b2fdbf76b658f320f210e5204477bd9c53a0450b2e8625aa8fc3e9221a5fb2", func := "loop.example/g01274/laws.FnExactOppositeSide", spec := "fnExactOppositeSide", apart := false }
def FnExactOppositeSideSaid : Prop := fnExactOppositeSideRow.holds Try.pinned (OpenSpec.ofChange fnExactOppositeSideSpec)

/-- ITS FALSE NEIGHBOUR: 'it returns false'. Refute it at one input. -/
def fnExactOppositeSideWrong : ChangeSpec := { name := "fnExactOppositeSide", fn := fun _ => fun
  | [d] => { results := [.lit (.bool false)], args := [d] }
  | _ => none }
def FnExactOppositeSideWrongFalsely : Prop := fnExactOppositeSideRow.holds Try.pinned (OpenSpec.ofChange fnExactOppositeSideWrong)

/-- 'laws.FnExactValidPiece': WHATEVER THE INPUT: true; the input reads as it did. -/
def fnExactValidPieceSpec : ChangeSpec := { name := "fnExactValidPiece", fn := fun _ => fun
  | [d] => { results := [.lit (.bool true)], args := [d] }
  | _ => none }
def fnExactValidPieceRow : OpenClaim := { program := "ytkcbcbannbllaaa", sum := "03b2fdbf76b658f320f210e5204477bd9c53a0450b2e8625aa8fc3e9221a5fb2", func := "loop.example/g01274/laws.FnExactValidPiece", spec := "fnExactValidPiece", apart := false }
def FnExactValidPieceSaid : Prop := fnExactValidPieceRow.holds Try.pinned (OpenSpec.ofChange fnExactValidPieceSpec)

/-- ITS FALSE NEIGHBOUR: 'it returns false'. Refute it at one input. -/
def fnExactValidPieceWrong : ChangeSpec := { name := "fnExactValidPiece", fn := fun _ => fun
  | [d] => { results := [.lit (.bool false)], args := [d] }
  | _ => none }
def FnExactValidPieceWrongFalsely : Prop := fnExactValidPieceRow.holds Try.pinned (OpenSpec.ofChange fnExactValidPieceWrong)

/-- 'laws.FnExactNextCell': WHATEVER THE INPUT: true; the input reads as it did. -/
def fnExactNextCellSpec : ChangeSpec := { name := "fnExactNextCell", fn := fun _ => fun
  | [d1, d2] => { results := [.lit (.bool true)], args := [d1, d2] }
  | _ => none }
def fnExactNextCellRow : OpenClaim := { program := "ytkcbcbannbllaaa", sum := "03b2fdbf76b658f320f210e5204477bd9c53a0450b2e8625aa8fc3e9221a5fb2", func := "loop.example/g01274/laws.FnExactNextCell", spec := "fnExactNextCell", apart := false }
def FnExactNextCellSaid : Prop := fnExactNextCellRow.holds Try.pinned (OpenSpec.ofChange fnExactNextCellSpec)

/-- ITS FALSE NEIGHBOUR: 'it returns false'. Refute it at one input. -/
def fnExactNextCellWrong : ChangeSpec := { name := "fnExactNextCell", fn := fun _ => fun
  | [d1, d2] => { results := [.lit (.bool false)], args := [d1, d2] }
  | _ => none }
def FnExactNextCellWrongFalsely : Prop := fnExactNextCellRow.holds Try.pinned (OpenSpec.ofChange fnExactNextCellWrong)

/-- 'laws.FnExactSameFalls': WHATEVER THE INPUT: true; the input reads as it did. -/
def fnExactSameFallsSpec : ChangeSpec := { name := "fnExactSameFalls", fn := fun _ => fun
  | [d1, d2] => { results := [.lit (.bool true)], args := [d1, d2] }
  | _ => none }
def fnExactSameFallsRow : OpenClaim := { program := "ytkcbcbannbllaaa", sum := "03b2fdbf76b658f320f210e5204477bd9c53a0450b2e8625aa8fc3e9221a5fb2", func := "loop.example/g01274/laws.FnExactSameFalls", spec := "fnExactSameFalls", apart := false }
def FnExactSameFallsSaid : Prop := fnExactSameFallsRow.holds Try.pinned (OpenSpec.ofChange fnExactSameFallsSpec)

/-- ITS FALSE NEIGHBOUR: 'it returns false'. Refute it at one input. -/
def fnExactSameFallsWrong : ChangeSpec := { name := "fnExactSameFalls", fn := fun _ => fun
  | [d1, d2] => { results := [.lit (.bool false)], args := [d1, d2] }
  | _ => none }
def FnExactSameFallsWrongFalsely : Prop := fnExactSameFallsRow.holds Try.pinned (OpenSpec.ofChange fnExactSameFallsWrong)

/-- 'laws.FnExactTurnPiece': WHATEVER THE INPUT: true; the input reads as it did. -/
def fnExactTurnPieceSpec : ChangeSpec := { name := "fnExactTurnPiece", fn := fun _ => fun
  | [d1, d2] => { results := [.lit (.bool true)], args := [d1, d2] }
  | _ => none }
def fnExactTurnPieceRow : OpenClaim := { program := "ytkcbcbannbllaaa", sum := "03b2fdbf76b658f320f210e5204477bd9c53a0450b2e8625aa8fc3e9221a5fb2", func := "loop.example/g01274/laws.FnExactTurnPiece", spec := "fnExactTurnPiece", apart := false }
def FnExactTurnPieceSaid : Prop := fnExactTurnPieceRow.holds Try.pinned (OpenSpec.ofChange fnExactTurnPieceSpec)

/-- ITS FALSE NEIGHBOUR: 'it returns false'. Refute it at one input. -/
def fnExactTurnPieceWrong : ChangeSpec := { name := "fnExactTurnPiece", fn := fun _ => fun
  | [d1, d2] => { results := [.lit (.bool false)], args := [d1, d2] }
  | _ => none }
def FnExactTurnPieceWrongFalsely : Prop := fnExactTurnPieceRow.holds Try.pinned (OpenSpec.ofChange fnExactTurnPieceWrong)

/-- 'laws.FnExactSameBoard': WHATEVER THE INPUT: true; the input reads as it did. -/
def fnExactSameBoardSpec : ChangeSpec := { name := "fnExactSameBoard", fn := fun _ => fun
  | [d1, d2] => { results := [.lit (.bool true)], args := [d1, d2] }
  | _ => none }
def fnExactSameBoardRow : OpenClaim := { program := "ytkcbcbannbllaaa", sum := "03b2fdbf76b658f320f210e5204477bd9c53a0450b2e8625aa8fc3e9221a5fb2", func := "loop.example/g01274/laws.FnExactSameBoard", spec := "fnExactSameBoard", apart := false }
def FnExactSameBoardSaid : Prop := fnExactSameBoardRow.holds Try.pinned (OpenSpec.ofChange fnExactSameBoardSpec)

/-- ITS FALSE NEIGHBOUR: 'it returns false'. Refute it at one input. -/
def fnExactSameBoardWrong : ChangeSpec := { name := "fnExactSameBoard", fn := fun _ => fun
  | [d1, d2] => { results := [.lit (.bool false)], args := [d1, d2] }
  | _ => none }
def FnExactSameBoardWrongFalsely : Prop := fnExactSameBoardRow.holds Try.pinned (OpenSpec.ofChange fnExactSameBoardWrong)

/-- 'laws.FnExactAlikePieces': WHATEVER THE INPUT: true; the input reads as it did. -/
def fnExactAlikePiecesSpec : ChangeSpec := { name := "fnExactAlikePieces", fn := fun _ => fun
  | [d1, d2] => { results := [.lit (.bool true)], args := [d1, d2] }
  | _ => none }
def fnExactAlikePiecesRow : OpenClaim := { program := "ytkcbcbannbllaaa", sum := "03b2fdbf76b658f320f210e5204477bd9c53a0450b2e8625aa8fc3e9221a5fb2", func := "loop.example/g01274/laws.FnExactAlikePieces", spec := "fnExactAlikePieces", apart := false }
def FnExactAlikePiecesSaid : Prop := fnExactAlikePiecesRow.holds Try.pinned (OpenSpec.ofChange fnExactAlikePiecesSpec)

/-- ITS FALSE NEIGHBOUR: 'it returns false'. Refute it at one input. -/
def fnExactAlikePiecesWrong : ChangeSpec := { name := "fnExactAlikePieces", fn := fun _ => fun
  | [d1, d2] => { results := [.lit (.bool false)], args := [d1, d2] }
  | _ => none }
def FnExactAlikePiecesWrongFalsely : Prop := fnExactAlikePiecesRow.holds Try.pinned (OpenSpec.ofChange fnExactAlikePiecesWrong)

/-- 'laws.FnExactFallsFrom': WHATEVER THE INPUT: true; the input reads as it did. -/
def fnExactFallsFromSpec : ChangeSpec := { name := "fnExactFallsFrom", fn := fun _ => fun
  | [d1, d2] => { results := [.lit (.bool true)], args := [d1, d2] }
  | _ => none }
def fnExactFallsFromRow : OpenClaim := { program := "ytkcbcbannbllaaa", sum := "03b2fdbf76b658f320f210e5204477bd9c53a0450b2e8625aa8fc3e9221a5fb2", func := "loop.example/g01274/laws.FnExactFallsFrom", spec := "fnExactFallsFrom", apart := false }
def FnExactFallsFromSaid : Prop := fnExactFallsFromRow.holds Try.pinned (OpenSpec.ofChange fnExactFallsFromSpec)

/-- ITS FALSE NEIGHBOUR: 'it returns false'. Refute it at one input. -/
def fnExactFallsFromWrong : ChangeSpec := { name := "fnExactFallsFrom", fn := fun _ => fun
  | [d1, d2] => { results := [.lit (.bool false)], args := [d1, d2] }
  | _ => none }
def FnExactFallsFromWrongFalsely : Prop := fnExactFallsFromRow.holds Try.pinned (OpenSpec.ofChange fnExactFallsFromWrong)

/-- 'laws.FnExactHitsFrom': WHATEVER THE INPUT: true; the input reads as it did. -/
def fnExactHitsFromSpec : ChangeSpec := { name := "fnExactHitsFrom", fn := fun _ => fun
  | [d1, d2] => { results := [.lit (.bool true)], args := [d1, d2] }
  | _ => none }
def fnExactHitsFromRow : OpenClaim := { program := "ytkcbcbannbllaaa", sum := "03b2fdbf76b658f320f210e5204477bd9c53a0450b2e8625aa8fc3e9221a5fb2", func := "loop.example/g01274/laws.FnExactHitsFrom", spec := "fnExactHitsFrom", apart := false }
def FnExactHitsFromSaid : Prop := fnExactHitsFromRow.holds Try.pinned (OpenSpec.ofChange fnExactHitsFromSpec)

/-- ITS FALSE NEIGHBOUR: 'it returns false'. Refute it at one input. -/
def fnExactHitsFromWrong : ChangeSpec := { name := "fnExactHitsFrom", fn := fun _ => fun
  | [d1, d2] => { results := [.lit (.bool false)], args := [d1, d2] }
  | _ => none }
def FnExactHitsFromWrongFalsely : Prop := fnExactHitsFromRow.holds Try.pinned (OpenSpec.ofChange fnExactHitsFromWrong)

/-- 'laws.FnPieces': WHATEVER THE INPUT: true; the input reads as it did. -/
def fnPiecesSpec : ChangeSpec := { name := "fnPieces", fn := fun _ => fun
  | [d1, d2] => { results := [.lit (.bool true)], args := [d1, d2] }
  | _ => none }
def fnPiecesRow : OpenClaim := { program := "ytkcbcbannbllaaa", sum := "03b2fdbf76b658f320f210e5204477bd9c53a0450b2e8625aa8fc3e9221a5fb2", func := "loop.example/g01274/laws.FnPieces", spec := "fnPieces", apart := false }
def FnPiecesSaid : Prop := fnPiecesRow.holds Try.pinned (OpenSpec.ofChange fnPiecesSpec)

/-- ITS FALSE NEIGHBOUR: 'it returns false'. Refute it at one input. -/
def fnPiecesWrong : ChangeSpec := { name := "fnPieces", fn := fun _ => fun
  | [d1, d2] => { results := [.lit (.bool false)], args := [d1, d2] }
  | _ => none }
def FnPiecesWrongFalsely : Prop := fnPiecesRow.holds Try.pinned (OpenSpec.ofChange fnPiecesWrong)

/- THE SECOND FORM. 'bulk': how many values and letters a reading holds, each counted each time it is reached (what is shared counts as often as it is met; a slice's spare places count too). A statement '..UptoSaid' is the law's where the arguments, and the package variables that the reading takes, are together of bulk at most 1048576: NARROWER than '..Said'. Prove '..Said' where nothing that the law and all that it calls make is longer than what came in: it says more and counts as full. Else prove '..UptoSaid'. A law counts once. -/
mutual
def uptoBulk {H : Type} : DataW H → Nat
  | .lit (.string bytes) => bytes.length + 1
  | .lit _ => 1
  | .nil => 1
  | .ptr d => uptoBulk d + 1
  | .slice elems spare => uptoBulkAll elems + uptoBulkAll spare + 1
  | .agg parts => uptoBulkAll parts + 1
  | .iface _ d => uptoBulk d + 1
  | .map entries => uptoBulkEntries entries + 1
  | .held _ => 1
def uptoBulkAll {H : Type} : List (DataW H) → Nat
  | [] => 0
  | d :: r => uptoBulk d + uptoBulkAll r
def uptoBulkEntries {H : Type} : List (Lit × DataW H) → Nat
  | [] => 0
  | x :: r => uptoBulkEntry x + uptoBulkEntries r
def uptoBulkEntry {H : Type} : Lit × DataW H → Nat
  | (.string bytes, d) => bytes.length + uptoBulk d + 1
  | (_, d) => uptoBulk d + 1
 end
def uptoSmall : (H : Type) → List (DataW H) → Bool := fun _ ds => decide (uptoBulkAll ds ≤ 1048576)
def OpenSpec.upto (s : _root_.Go.ChangeSpec) : _root_.Go.OpenSpec := { _root_.Go.OpenSpec.ofChange s with cond := some uptoSmall }

/-- 'laws.FnExactConstants', WHERE WHAT IT READS IS OF BULK AT MOST 1048576: true; the input reads as it did. -/
def fnExactConstantsUptoRow : OpenClaim := { program := "ytkcbcbannbllaaa", sum := "03b2fdbf76b658f320f210e5204477bd9c53a0450b2e8625aa8fc3e9221a5fb2", func := "loop.example/g01274/laws.FnExactConstants", spec := "fnExactConstants", apart := false, narrowed := true }
def FnExactConstantsUptoSaid : Prop := fnExactConstantsUptoRow.holds Try.pinned (OpenSpec.upto fnExactConstantsSpec)

/-- 'laws.FnExactCodeName', WHERE WHAT IT READS IS OF BULK AT MOST 1048576: true; the input reads as it did. -/
def fnExactCodeNameUptoRow : OpenClaim := { program := "ytkcbcbannbllaaa", sum := "03b2fdbf76b658f320f210e5204477bd9c53a0450b2e8625aa8fc3e9221a5fb2", func := "loop.example/g01274/laws.FnExactCodeName", spec := "fnExactCodeName", apart := false, narrowed := true }
def FnExactCodeNameUptoSaid : Prop := fnExactCodeNameUptoRow.holds Try.pinned (OpenSpec.upto fnExactCodeNameSpec)

/-- 'laws.FnExactOppositeSide', WHERE WHAT IT READS IS OF BULK AT MOST 1048576: true; the input reads as it did. -/
def fnExactOppositeSideUptoRow : OpenClaim := { program := "ytkcbcbannbllaaa", sum := "03b2fdbf76b658f320f210e5204477bd9c53a0450b2e8625aa8fc3e9221a5fb2", func := "loop.example/g01274/laws.FnExactOppositeSide", spec := "fnExactOppositeSide", apart := false, narrowed := true }
def FnExactOppositeSideUptoSaid : Prop := fnExactOppositeSideUptoRow.holds Try.pinned (OpenSpec.upto fnExactOppositeSideSpec)

/-- 'laws.FnExactValidPiece', WHERE WHAT IT READS IS OF BULK AT MOST 1048576: true; the input reads as it did. -/
def fnExactValidPieceUptoRow : OpenClaim := { program := "ytkcbcbannbllaaa", sum := "03b2fdbf76b658f320f210e5204477bd9c53a0450b2e8625aa8fc3e9221a5fb2", func := "loop.example/g01274/laws.FnExactValidPiece", spec := "fnExactValidPiece", apart := false, narrowed := true }
def FnExactValidPieceUptoSaid : Prop := fnExactValidPieceUptoRow.holds Try.pinned (OpenSpec.upto fnExactValidPieceSpec)

/-- 'laws.FnExactNextCell', WHERE WHAT IT READS IS OF BULK AT MOST 1048576: true; the input reads as it did. -/
def fnExactNextCellUptoRow : OpenClaim := { program := "ytkcbcbannbllaaa", sum := "03b2fdbf76b658f320f210e5204477bd9c53a0450b2e8625aa8fc3e9221a5fb2", func := "loop.example/g01274/laws.FnExactNextCell", spec := "fnExactNextCell", apart := false, narrowed := true }
def FnExactNextCellUptoSaid : Prop := fnExactNextCellUptoRow.holds Try.pinned (OpenSpec.upto fnExactNextCellSpec)

/-- 'laws.FnExactSameFalls', WHERE WHAT IT READS IS OF BULK AT MOST 1048576: true; the input reads as it did. -/
def fnExactSameFallsUptoRow : OpenClaim := { program := "ytkcbcbannbllaaa", sum := "03b2fdbf76b658f320f210e5204477bd9c53a0450b2e8625aa8fc3e9221a5fb2", func := "loop.example/g01274/laws.FnExactSameFalls", spec := "fnExactSameFalls", apart := false, narrowed := true }
def FnExactSameFallsUptoSaid : Prop := fnExactSameFallsUptoRow.holds Try.pinned (OpenSpec.upto fnExactSameFallsSpec)

/-- 'laws.FnExactTurnPiece', WHERE WHAT IT READS IS OF BULK AT MOST 1048576: true; the input reads as it did. -/
def fnExactTurnPieceUptoRow : OpenClaim := { program := "ytkcbcbannbllaaa", sum := "03b2fdbf76b658f320f210e5204477bd9c53a0450b2e8625aa8fc3e9221a5fb2", func := "loop.example/g01274/laws.FnExactTurnPiece", spec := "fnExactTurnPiece", apart := false, narrowed := true }
def FnExactTurnPieceUptoSaid : Prop := fnExactTurnPieceUptoRow.holds Try.pinned (OpenSpec.upto fnExactTurnPieceSpec)

/-- 'laws.FnExactSameBoard', WHERE WHAT IT READS IS OF BULK AT MOST 1048576: true; the input reads as it did. -/
def fnExactSameBoardUptoRow : OpenClaim := { program := "ytkcbcbannbllaaa", sum := "03b2fdbf76b658f320f210e5204477bd9c53a0450b2e8625aa8fc3e9221a5fb2", func := "loop.example/g01274/laws.FnExactSameBoard", spec := "fnExactSameBoard", apart := false, narrowed := true }
def FnExactSameBoardUptoSaid : Prop := fnExactSameBoardUptoRow.holds Try.pinned (OpenSpec.upto fnExactSameBoardSpec)

/-- 'laws.FnExactAlikePieces', WHERE WHAT IT READS IS OF BULK AT MOST 1048576: true; the input reads as it did. -/
def fnExactAlikePiecesUptoRow : OpenClaim := { program := "ytkcbcbannbllaaa", sum := "03b2fdbf76b658f320f210e5204477bd9c53a0450b2e8625aa8fc3e9221a5fb2", func := "loop.example/g01274/laws.FnExactAlikePieces", spec := "fnExactAlikePieces", apart := false, narrowed := true }
def FnExactAlikePiecesUptoSaid : Prop := fnExactAlikePiecesUptoRow.holds Try.pinned (OpenSpec.upto fnExactAlikePiecesSpec)

/-- 'laws.FnExactFallsFrom', WHERE WHAT IT READS IS OF BULK AT MOST 1048576: true; the input reads as it did. -/
def fnExactFallsFromUptoRow : OpenClaim := { program := "ytkcbcbannbllaaa", sum := "03b2fdbf76b658f320f210e5204477bd9c53a0450b2e8625aa8fc3e9221a5fb2", func := "loop.example/g01274/laws.FnExactFallsFrom", spec := "fnExactFallsFrom", apart := false, narrowed := true }
def FnExactFallsFromUptoSaid : Prop := fnExactFallsFromUptoRow.holds Try.pinned (OpenSpec.upto fnExactFallsFromSpec)

/-- 'laws.FnExactHitsFrom', WHERE WHAT IT READS IS OF BULK AT MOST 1048576: true; the input reads as it did. -/
def fnExactHitsFromUptoRow : OpenClaim := { program := "ytkcbcbannbllaaa", sum := "03b2fdbf76b658f320f210e5204477bd9c53a0450b2e8625aa8fc3e9221a5fb2", func := "loop.example/g01274/laws.FnExactHitsFrom", spec := "fnExactHitsFrom", apart := false, narrowed := true }
def FnExactHitsFromUptoSaid : Prop := fnExactHitsFromUptoRow.holds Try.pinned (OpenSpec.upto fnExactHitsFromSpec)

/-- 'laws.FnPieces', WHERE WHAT IT READS IS OF BULK AT MOST 1048576: true; the input reads as it did. -/
def fnPiecesUptoRow : OpenClaim := { program := "ytkcbcbannbllaaa", sum := "03b2fdbf76b658f320f210e5204477bd9c53a0450b2e8625aa8fc3e9221a5fb2", func := "loop.example/g01274/laws.FnPieces", spec := "fnPieces", apart := false, narrowed := true }
def FnPiecesUptoSaid : Prop := fnPiecesUptoRow.holds Try.pinned (OpenSpec.upto fnPiecesSpec)

end Rows
end Go.Proofs.Ytkcbcbannbllaaa
