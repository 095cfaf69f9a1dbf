/-
  No cell of these rows narrows 'for every input' (looked for: loops, veiled, ifaces, maps, wideKeys, modest, calm, conditions, laid).
  DERIVED. THE GIVEN ROWS OF THIS SEAT. 18 by the template 'for every input the law returns true; each argument reads behind the call as it read before'; 0 by the template 'total and deterministic' (their statements: YtffnfpnajkgnaaaTotals.lean).
  GIVEN WITH THE SEED: the statements are not yours to turn. If you find one false, say at which input.
  Laid BY PROGRAM, IN A SANDBOX (cutbox-rows.mjs): the forced cells as the released guide's own fill.sh prints them over the translation 63c20b8e64dc364c… (all of the seat's roots in one cut). By AI agents, Wed Nov 11 2026. No macro, syntax, notation, axiom, sorry.
-/
import Derived.Test.YtffnfpnajkgnaaaChecked
import GoSem.Claim
import GoSem.ClaimJoined
import GoSem.ClaimMapViews
import Derived.JoinedTies
import Derived.KernelRfl
namespace Go.Proofs.Ytffnfpnajkgnaaa
/- THE CELL 'sum', in the pinned program and in every row, IS THE sha256 OF THE DUMP (.gsa) THAT YtffnfpnajkgnaaaProg.lean LOADS. Nothing in Lean hashes anything: it is a label: what it is worth is what the hold of that sum in a sandbox is worth. -/
noncomputable def Try.pinned : Pinned := { name := "ytffnfpnajkgnaaa", sum := "63c20b8e64dc364cfe5fb307ef056ae8403505286afb06875e33789585b6950d", checked := Try.checked }
namespace Rows
def none {H : Type} : Left H := { results := [], args := [] }

/-- 'laws.FnExactPushesFor': WHATEVER THE INPUT: true; the input reads as it did. -/
def fnExactPushesForSpec : ChangeSpec := { name := "fnExactPushesFor", fn := fun _ => fun
  | [d1, d2, d3] => { results := [.lit (.bool true)], args := [d1, d2, d3] }
  | _ => none }
def fnExactPushesForRow : OpenClaim := { program := "ytffnfpnajkgnaaa", sum := "63c20b8e64dc364cfe5fb307ef056ae8403505286afb06875e33789585b6950d", func := "loop.example/g01274/laws.FnExactPushesFor", spec := "fnExactPushesFor", unfollowed := true, recurses := true, plainKeys := false, apart := false }
def FnExactPushesForSaid : Prop := fnExactPushesForRow.holds Try.pinned (OpenSpec.ofChange fnExactPushesForSpec)

/-- ITS FALSE NEIGHBOUR: 'it returns false'. Refute it at one input. -/
def fnExactPushesForWrong : ChangeSpec := { name := "fnExactPushesFor", fn := fun _ => fun
  | [d1, d2, d3] => { results := [.lit (.bool false)], args := [d1, d2, d3] }
  | _ => none }
def FnExactPushesForWrongFalsely : Prop := fnExactPushesForRow.holds Try.pinned (OpenSpec.ofChange fnExactPushesForWrong)

/-- 'laws.FnExactLaterPushes': WHATEVER THE INPUT: true; the input reads as it did. -/
def fnExactLaterPushesSpec : ChangeSpec := { name := "fnExactLaterPushes", fn := fun _ => fun
  | [d1, d2] => { results := [.lit (.bool true)], args := [d1, d2] }
  | _ => none }
def fnExactLaterPushesRow : OpenClaim := { program := "ytffnfpnajkgnaaa", sum := "63c20b8e64dc364cfe5fb307ef056ae8403505286afb06875e33789585b6950d", func := "loop.example/g01274/laws.FnExactLaterPushes", spec := "fnExactLaterPushes", plainKeys := false, apart := false }
def FnExactLaterPushesSaid : Prop := fnExactLaterPushesRow.holds Try.pinned (OpenSpec.ofChange fnExactLaterPushesSpec)

/-- ITS FALSE NEIGHBOUR: 'it returns false'. Refute it at one input. -/
def fnExactLaterPushesWrong : ChangeSpec := { name := "fnExactLaterPushes", fn := fun _ => fun
  | [d1, d2] => { results := [.lit (.bool false)], args := [d1, d2] }
  | _ => none }
def FnExactLaterPushesWrongFalsely : Prop := fnExactLaterPushesRow.holds Try.pinned (OpenSpec.ofChange fnExactLaterPushesWrong)

/-- 'laws.FnExactMoveMachine': WHATEVER THE INPUT: true; the input reads as it did. -/
def fnExactMoveMachineSpec : ChangeSpec := { name := "fnExactMoveMachine", fn := fun _ => fun
  | [d1, d2, d3] => { results := [.lit (.bool true)], args := [d1, d2, d3] }
  | _ => none }
def fnExactMoveMachineRow : OpenClaim := { program := "ytffnfpnajkgnaaa", sum := "63c20b8e64dc364cfe5fb307ef056ae8403505286afb06875e33789585b6950d", func := "loop.example/g01274/laws.FnExactMoveMachine", spec := "fnExactMoveMachine", unfollowed := true, recurses := true, plainKeys := false, apart := false }
def FnExactMoveMachineSaid : Prop := fnExactMoveMachineRow.holds Try.pinned (OpenSpec.ofChange fnExactMoveMachineSpec)

/-- ITS FALSE NEIGHBOUR: 'it returns false'. Refute it at one input. -/
def fnExactMoveMachineWrong : ChangeSpec := { name := "fnExactMoveMachine", fn := fun _ => fun
  | [d1, d2, d3] => { results := [.lit (.bool false)], args := [d1, d2, d3] }
  | _ => none }
def FnExactMoveMachineWrongFalsely : Prop := fnExactMoveMachineRow.holds Try.pinned (OpenSpec.ofChange fnExactMoveMachineWrong)

/-- 'laws.FnExactValidBoard': WHATEVER THE INPUT: true; the input reads as it did. -/
def fnExactValidBoardSpec : ChangeSpec := { name := "fnExactValidBoard", fn := fun _ => fun
  | [d] => { results := [.lit (.bool true)], args := [d] }
  | _ => none }
def fnExactValidBoardRow : OpenClaim := { program := "ytffnfpnajkgnaaa", sum := "63c20b8e64dc364cfe5fb307ef056ae8403505286afb06875e33789585b6950d", func := "loop.example/g01274/laws.FnExactValidBoard", spec := "fnExactValidBoard", plainKeys := false, apart := false }
def FnExactValidBoardSaid : Prop := fnExactValidBoardRow.holds Try.pinned (OpenSpec.ofChange fnExactValidBoardSpec)

/-- ITS FALSE NEIGHBOUR: 'it returns false'. Refute it at one input. -/
def fnExactValidBoardWrong : ChangeSpec := { name := "fnExactValidBoard", fn := fun _ => fun
  | [d] => { results := [.lit (.bool false)], args := [d] }
  | _ => none }
def FnExactValidBoardWrongFalsely : Prop := fnExactValidBoardRow.holds Try.pinned (OpenSpec.ofChange fnExactValidBoardWrong)

/-- 'laws.FnExactCountKinds': WHATEVER THE INPUT: true; the input reads as it did. -/
def fnExactCountKindsSpec : ChangeSpec := { name := "fnExactCountKinds", fn := fun _ => fun
  | [d] => { results := [.lit (.bool true)], args := [d] }
  | _ => none }
def fnExactCountKindsRow : OpenClaim := { program := "ytffnfpnajkgnaaa", sum := "63c20b8e64dc364cfe5fb307ef056ae8403505286afb06875e33789585b6950d", func := "loop.example/g01274/laws.FnExactCountKinds", spec := "fnExactCountKinds", plainKeys := false, apart := false }
def FnExactCountKindsSaid : Prop := fnExactCountKindsRow.holds Try.pinned (OpenSpec.ofChange fnExactCountKindsSpec)

/-- ITS FALSE NEIGHBOUR: 'it returns false'. Refute it at one input. -/
def fnExactCountKindsWrong : ChangeSpec := { name := "fnExactCountKinds", fn := fun _ => fun
  | [d] => { results := [.lit (.bool false)], args := [d] }
  | _ => none }
def FnExactCountKindsWrongFalsely : Prop := fnExactCountKindsRow.holds Try.pinned (OpenSpec.ofChange fnExactCountKindsWrong)

/-- 'laws.FnExactSortBoard': WHATEVER THE INPUT: true; the input reads as it did. -/
def fnExactSortBoardSpec : ChangeSpec := { name := "fnExactSortBoard", fn := fun _ => fun
  | [d] => { results := [.lit (.bool true)], args := [d] }
  | _ => none }
def fnExactSortBoardRow : OpenClaim := { program := "ytffnfpnajkgnaaa", sum := "63c20b8e64dc364cfe5fb307ef056ae8403505286afb06875e33789585b6950d", func := "loop.example/g01274/laws.FnExactSortBoard", spec := "fnExactSortBoard", unfollowed := true, recurses := true, plainKeys := false, apart := false }
def FnExactSortBoardSaid : Prop := fnExactSortBoardRow.holds Try.pinned (OpenSpec.ofChange fnExactSortBoardSpec)

/-- ITS FALSE NEIGHBOUR: 'it returns false'. Refute it at one input. -/
def fnExactSortBoardWrong : ChangeSpec := { name := "fnExactSortBoard", fn := fun _ => fun
  | [d] => { results := [.lit (.bool false)], args := [d] }
  | _ => none }
def FnExactSortBoardWrongFalsely : Prop := fnExactSortBoardRow.holds Try.pinned (OpenSpec.ofChange fnExactSortBoardWrong)

/-- 'laws.FnExactPieceAt': WHATEVER THE INPUT: true; the input reads as it did. -/
def fnExactPieceAtSpec : ChangeSpec := { name := "fnExactPieceAt", fn := fun _ => fun
  | [d1, d2] => { results := [.lit (.bool true)], args := [d1, d2] }
  | _ => none }
def fnExactPieceAtRow : OpenClaim := { program := "ytffnfpnajkgnaaa", sum := "63c20b8e64dc364cfe5fb307ef056ae8403505286afb06875e33789585b6950d", func := "loop.example/g01274/laws.FnExactPieceAt", spec := "fnExactPieceAt", unfollowed := true, recurses := true, plainKeys := false, apart := false }
def FnExactPieceAtSaid : Prop := fnExactPieceAtRow.holds Try.pinned (OpenSpec.ofChange fnExactPieceAtSpec)

/-- ITS FALSE NEIGHBOUR: 'it returns false'. Refute it at one input. -/
def fnExactPieceAtWrong : ChangeSpec := { name := "fnExactPieceAt", fn := fun _ => fun
  | [d1, d2] => { results := [.lit (.bool false)], args := [d1, d2] }
  | _ => none }
def FnExactPieceAtWrongFalsely : Prop := fnExactPieceAtRow.holds Try.pinned (OpenSpec.ofChange fnExactPieceAtWrong)

/-- 'laws.FnExactNeighboursOf': WHATEVER THE INPUT: true; the input reads as it did. -/
def fnExactNeighboursOfSpec : ChangeSpec := { name := "fnExactNeighboursOf", fn := fun _ => fun
  | [d1, d2] => { results := [.lit (.bool true)], args := [d1, d2] }
  | _ => none }
def fnExactNeighboursOfRow : OpenClaim := { program := "ytffnfpnajkgnaaa", sum := "63c20b8e64dc364cfe5fb307ef056ae8403505286afb06875e33789585b6950d", func := "loop.example/g01274/laws.FnExactNeighboursOf", spec := "fnExactNeighboursOf", unfollowed := true, recurses := true, plainKeys := false, apart := false }
def FnExactNeighboursOfSaid : Prop := fnExactNeighboursOfRow.holds Try.pinned (OpenSpec.ofChange fnExactNeighboursOfSpec)

/-- ITS FALSE NEIGHBOUR: 'it returns false'. Refute it at one input. -/
def fnExactNeighboursOfWrong : ChangeSpec := { name := "fnExactNeighboursOf", fn := fun _ => fun
  | [d1, d2] => { results := [.lit (.bool false)], args := [d1, d2] }
  | _ => none }
def FnExactNeighboursOfWrongFalsely : Prop := fnExactNeighboursOfRow.holds Try.pinned (OpenSpec.ofChange fnExactNeighboursOfWrong)

/-- 'laws.FnExactValidPushes': WHATEVER THE INPUT: true; the input reads as it did. -/
def fnExactValidPushesSpec : ChangeSpec := { name := "fnExactValidPushes", fn := fun _ => fun
  | [d1, d2] => { results := [.lit (.bool true)], args := [d1, d2] }
  | _ => none }
def fnExactValidPushesRow : OpenClaim := { program := "ytffnfpnajkgnaaa", sum := "63c20b8e64dc364cfe5fb307ef056ae8403505286afb06875e33789585b6950d", func := "loop.example/g01274/laws.FnExactValidPushes", spec := "fnExactValidPushes", unfollowed := true, recurses := true, plainKeys := false, apart := false }
def FnExactValidPushesSaid : Prop := fnExactValidPushesRow.holds Try.pinned (OpenSpec.ofChange fnExactValidPushesSpec)

/-- ITS FALSE NEIGHBOUR: 'it returns false'. Refute it at one input. -/
def fnExactValidPushesWrong : ChangeSpec := { name := "fnExactValidPushes", fn := fun _ => fun
  | [d1, d2] => { results := [.lit (.bool false)], args := [d1, d2] }
  | _ => none }
def FnExactValidPushesWrongFalsely : Prop := fnExactValidPushesRow.holds Try.pinned (OpenSpec.ofChange fnExactValidPushesWrong)

/-- 'laws.FnExactSameMachine': WHATEVER THE INPUT: true; the input reads as it did. -/
def fnExactSameMachineSpec : ChangeSpec := { name := "fnExactSameMachine", fn := fun _ => fun
  | [d1, d2] => { results := [.lit (.bool true)], args := [d1, d2] }
  | _ => none }
def fnExactSameMachineRow : OpenClaim := { program := "ytffnfpnajkgnaaa", sum := "63c20b8e64dc364cfe5fb307ef056ae8403505286afb06875e33789585b6950d", func := "loop.example/g01274/laws.FnExactSameMachine", spec := "fnExactSameMachine", plainKeys := false, apart := false }
def FnExactSameMachineSaid : Prop := fnExactSameMachineRow.holds Try.pinned (OpenSpec.ofChange fnExactSameMachineSpec)

/-- ITS FALSE NEIGHBOUR: 'it returns false'. Refute it at one input. -/
def fnExactSameMachineWrong : ChangeSpec := { name := "fnExactSameMachine", fn := fun _ => fun
  | [d1, d2] => { results := [.lit (.bool false)], args := [d1, d2] }
  | _ => none }
def FnExactSameMachineWrongFalsely : Prop := fnExactSameMachineRow.holds Try.pinned (OpenSpec.ofChange fnExactSameMachineWrong)

/-- 'laws.FnExactMoveBoard': WHATEVER THE INPUT: true; the input reads as it did. -/
def fnExactMoveBoardSpec : ChangeSpec := { name := "fnExactMoveBoard", fn := fun _ => fun
  | [d1, d2, d3] => { results := [.lit (.bool true)], args := [d1, d2, d3] }
  | _ => none }
def fnExactMoveBoardRow : OpenClaim := { program := "ytffnfpnajkgnaaa", sum := "63c20b8e64dc364cfe5fb307ef056ae8403505286afb06875e33789585b6950d", func := "loop.example/g01274/laws.FnExactMoveBoard", spec := "fnExactMoveBoard", plainKeys := false, apart := false }
def FnExactMoveBoardSaid : Prop := fnExactMoveBoardRow.holds Try.pinned (OpenSpec.ofChange fnExactMoveBoardSpec)

/-- ITS FALSE NEIGHBOUR: 'it returns false'. Refute it at one input. -/
def fnExactMoveBoardWrong : ChangeSpec := { name := "fnExactMoveBoard", fn := fun _ => fun
  | [d1, d2, d3] => { results := [.lit (.bool false)], args := [d1, d2, d3] }
  | _ => none }
def FnExactMoveBoardWrongFalsely : Prop := fnExactMoveBoardRow.holds Try.pinned (OpenSpec.ofChange fnExactMoveBoardWrong)

/-- 'laws.FnExactPutPiece': WHATEVER THE INPUT: true; the input reads as it did. -/
def fnExactPutPieceSpec : ChangeSpec := { name := "fnExactPutPiece", fn := fun _ => fun
  | [d1, d2] => { results := [.lit (.bool true)], args := [d1, d2] }
  | _ => none }
def fnExactPutPieceRow : OpenClaim := { program := "ytffnfpnajkgnaaa", sum := "63c20b8e64dc364cfe5fb307ef056ae8403505286afb06875e33789585b6950d", func := "loop.example/g01274/laws.FnExactPutPiece", spec := "fnExactPutPiece", unfollowed := true, recurses := true, plainKeys := false, apart := false }
def FnExactPutPieceSaid : Prop := fnExactPutPieceRow.holds Try.pinned (OpenSpec.ofChange fnExactPutPieceSpec)

/-- ITS FALSE NEIGHBOUR: 'it returns false'. Refute it at one input. -/
def fnExactPutPieceWrong : ChangeSpec := { name := "fnExactPutPiece", fn := fun _ => fun
  | [d1, d2] => { results := [.lit (.bool false)], args := [d1, d2] }
  | _ => none }
def FnExactPutPieceWrongFalsely : Prop := fnExactPutPieceRow.holds Try.pinned (OpenSpec.ofChange fnExactPutPieceWrong)

/-- 'laws.FnExactTakePiece': WHATEVER THE INPUT: true; the input reads as it did. -/
def fnExactTakePieceSpec : ChangeSpec := { name := "fnExactTakePiece", fn := fun _ => fun
  | [d1, d2] => { results := [.lit (.bool true)], args := [d1, d2] }
  | _ => none }
def fnExactTakePieceRow : OpenClaim := { program := "ytffnfpnajkgnaaa", sum := "63c20b8e64dc364cfe5fb307ef056ae8403505286afb06875e33789585b6950d", func := "loop.example/g01274/laws.FnExactTakePiece", spec := "fnExactTakePiece", unfollowed := true, recurses := true, plainKeys := false, apart := false }
def FnExactTakePieceSaid : Prop := fnExactTakePieceRow.holds Try.pinned (OpenSpec.ofChange fnExactTakePieceSpec)

/-- ITS FALSE NEIGHBOUR: 'it returns false'. Refute it at one input. -/
def fnExactTakePieceWrong : ChangeSpec := { name := "fnExactTakePiece", fn := fun _ => fun
  | [d1, d2] => { results := [.lit (.bool false)], args := [d1, d2] }
  | _ => none }
def FnExactTakePieceWrongFalsely : Prop := fnExactTakePieceRow.holds Try.pinned (OpenSpec.ofChange fnExactTakePieceWrong)

/-- 'laws.FnExactTurnBoard': WHATEVER THE INPUT: true; the input reads as it did. -/
def fnExactTurnBoardSpec : ChangeSpec := { name := "fnExactTurnBoard", fn := fun _ => fun
  | [d1, d2] => { results := [.lit (.bool true)], args := [d1, d2] }
  | _ => none }
def fnExactTurnBoardRow : OpenClaim := { program := "ytffnfpnajkgnaaa", sum := "63c20b8e64dc364cfe5fb307ef056ae8403505286afb06875e33789585b6950d", func := "loop.example/g01274/laws.FnExactTurnBoard", spec := "fnExactTurnBoard", plainKeys := false, apart := false }
def FnExactTurnBoardSaid : Prop := fnExactTurnBoardRow.holds Try.pinned (OpenSpec.ofChange fnExactTurnBoardSpec)

/-- ITS FALSE NEIGHBOUR: 'it returns false'. Refute it at one input. -/
def fnExactTurnBoardWrong : ChangeSpec := { name := "fnExactTurnBoard", fn := fun _ => fun
  | [d1, d2] => { results := [.lit (.bool false)], args := [d1, d2] }
  | _ => none }
def FnExactTurnBoardWrongFalsely : Prop := fnExactTurnBoardRow.holds Try.pinned (OpenSpec.ofChange fnExactTurnBoardWrong)

/-- 'laws.FnExactJoinBoards': WHATEVER THE INPUT: true; the input reads as it did. -/
def fnExactJoinBoardsSpec : ChangeSpec := { name := "fnExactJoinBoards", fn := fun _ => fun
  | [d1, d2] => { results := [.lit (.bool true)], args := [d1, d2] }
  | _ => none }
def fnExactJoinBoardsRow : OpenClaim := { program := "ytffnfpnajkgnaaa", sum := "63c20b8e64dc364cfe5fb307ef056ae8403505286afb06875e33789585b6950d", func := "loop.example/g01274/laws.FnExactJoinBoards", spec := "fnExactJoinBoards", unfollowed := true, recurses := true, plainKeys := false, apart := false }
def FnExactJoinBoardsSaid : Prop := fnExactJoinBoardsRow.holds Try.pinned (OpenSpec.ofChange fnExactJoinBoardsSpec)

/-- ITS FALSE NEIGHBOUR: 'it returns false'. Refute it at one input. -/
def fnExactJoinBoardsWrong : ChangeSpec := { name := "fnExactJoinBoards", fn := fun _ => fun
  | [d1, d2] => { results := [.lit (.bool false)], args := [d1, d2] }
  | _ => none }
def FnExactJoinBoardsWrongFalsely : Prop := fnExactJoinBoardsRow.holds Try.pinned (OpenSpec.ofChange fnExactJoinBoardsWrong)

/-- 'laws.FnExactBoardPicture': WHATEVER THE INPUT: true; the input reads as it did. -/
def fnExactBoardPictureSpec : ChangeSpec := { name := "fnExactBoardPicture", fn := fun _ => fun
  | [d] => { results := [.lit (.bool true)], args := [d] }
  | _ => none }
def fnExactBoardPictureRow : OpenClaim := { program := "ytffnfpnajkgnaaa", sum := "63c20b8e64dc364cfe5fb307ef056ae8403505286afb06875e33789585b6950d", func := "loop.example/g01274/laws.FnExactBoardPicture", spec := "fnExactBoardPicture", unfollowed := true, recurses := true, plainKeys := false, apart := false }
def FnExactBoardPictureSaid : Prop := fnExactBoardPictureRow.holds Try.pinned (OpenSpec.ofChange fnExactBoardPictureSpec)

/-- ITS FALSE NEIGHBOUR: 'it returns false'. Refute it at one input. -/
def fnExactBoardPictureWrong : ChangeSpec := { name := "fnExactBoardPicture", fn := fun _ => fun
  | [d] => { results := [.lit (.bool false)], args := [d] }
  | _ => none }
def FnExactBoardPictureWrongFalsely : Prop := fnExactBoardPictureRow.holds Try.pinned (OpenSpec.ofChange fnExactBoardPictureWrong)

/-- 'laws.FnExactValidMachine': WHATEVER THE INPUT: true; the input reads as it did. -/
def fnExactValidMachineSpec : ChangeSpec := { name := "fnExactValidMachine", fn := fun _ => fun
  | [d] => { results := [.lit (.bool true)], args := [d] }
  | _ => none }
def fnExactValidMachineRow : OpenClaim := { program := "ytffnfpnajkgnaaa", sum := "63c20b8e64dc364cfe5fb307ef056ae8403505286afb06875e33789585b6950d", func := "loop.example/g01274/laws.FnExactValidMachine", spec := "fnExactValidMachine", unfollowed := true, recurses := true, plainKeys := false, apart := false }
def FnExactValidMachineSaid : Prop := fnExactValidMachineRow.holds Try.pinned (OpenSpec.ofChange fnExactValidMachineSpec)

/-- ITS FALSE NEIGHBOUR: 'it returns false'. Refute it at one input. -/
def fnExactValidMachineWrong : ChangeSpec := { name := "fnExactValidMachine", fn := fun _ => fun
  | [d] => { results := [.lit (.bool false)], args := [d] }
  | _ => none }
def FnExactValidMachineWrongFalsely : Prop := fnExactValidMachineRow.holds Try.pinned (OpenSpec.ofChange fnExactValidMachineWrong)

/-- 'laws.FnExactNeverHit': WHATEVER THE INPUT: true; the input reads as it did. -/
def fnExactNeverHitSpec : ChangeSpec := { name := "fnExactNeverHit", fn := fun _ => fun
  | [d] => { results := [.lit (.bool true)], args := [d] }
  | _ => none }
def fnExactNeverHitRow : OpenClaim := { program := "ytffnfpnajkgnaaa", sum := "63c20b8e64dc364cfe5fb307ef056ae8403505286afb06875e33789585b6950d", func := "loop.example/g01274/laws.FnExactNeverHit", spec := "fnExactNeverHit", unfollowed := true, recurses := true, plainKeys := false, apart := false }
def FnExactNeverHitSaid : Prop := fnExactNeverHitRow.holds Try.pinned (OpenSpec.ofChange fnExactNeverHitSpec)

/-- ITS FALSE NEIGHBOUR: 'it returns false'. Refute it at one input. -/
def fnExactNeverHitWrong : ChangeSpec := { name := "fnExactNeverHit", fn := fun _ => fun
  | [d] => { results := [.lit (.bool false)], args := [d] }
  | _ => none }
def FnExactNeverHitWrongFalsely : Prop := fnExactNeverHitRow.holds Try.pinned (OpenSpec.ofChange fnExactNeverHitWrong)

/- THE SECOND FORM. 'bulk': how many values and letters a reading holds, each counted each time it is reached (what is shared counts as often as it is met; a slice's spare places count too). A statement '..UptoSaid' is the law's where the arguments, and the package variables that the reading takes, are together of bulk at most 1048576: NARROWER than '..Said'. Prove '..Said' where nothing that the law and all that it calls make is longer than what came in: it says more and counts as full. Else prove '..UptoSaid'. A law counts once. -/
mutual
def uptoBulk {H : Type} : DataW H → Nat
  | .lit (.string bytes) => bytes.length + 1
  | .lit _ => 1
  | .nil => 1
  | .ptr d => uptoBulk d + 1
  | .slice elems spare => uptoBulkAll elems + uptoBulkAll spare + 1
  | .agg parts => uptoBulkAll parts + 1
  | .iface _ d => uptoBulk d + 1
  | .map entries => uptoBulkEntries entries + 1
  | .held _ => 1
def uptoBulkAll {H : Type} : List (DataW H) → Nat
  | [] => 0
  | d :: r => uptoBulk d + uptoBulkAll r
def uptoBulkEntries {H : Type} : List (Lit × DataW H) → Nat
  | [] => 0
  | x :: r => uptoBulkEntry x + uptoBulkEntries r
def uptoBulkEntry {H : Type} : Lit × DataW H → Nat
  | (.string bytes, d) => bytes.length + uptoBulk d + 1
  | (_, d) => uptoBulk d + 1
 end
def uptoSmall : (H : Type) → List (DataW H) → Bool := fun _ ds => decide (uptoBulkAll ds ≤ 1048576)
def OpenSpec.upto (s : _root_.Go.ChangeSpec) : _root_.Go.OpenSpec := { _root_.Go.OpenSpec.ofChange s with cond := some uptoSmall }

/-- 'laws.FnExactPushesFor', WHERE WHAT IT READS IS OF BULK AT MOST 1048576: true; the input reads as it did. -/
def fnExactPushesForUptoRow : OpenClaim := { program := "ytffnfpnajkgnaaa", sum := "63c20b8e64dc364cfe5fb307ef056ae8403505286afb06875e33789585b6950d", func := "loop.example/g01274/laws.FnExactPushesFor", spec := "fnExactPushesFor", unfollowed := true, recurses := true, plainKeys := false, apart := false, narrowed := true }
def FnExactPushesForUptoSaid : Prop := fnExactPushesForUptoRow.holds Try.pinned (OpenSpec.upto fnExactPushesForSpec)

/-- 'laws.FnExactLaterPushes', WHERE WHAT IT READS IS OF BULK AT MOST 1048576: true; the input reads as it did. -/
def fnExactLaterPushesUptoRow : OpenClaim := { program := "ytffnfpnajkgnaaa", sum := "63c20b8e64dc364cfe5fb307ef056ae8403505286afb06875e33789585b6950d", func := "loop.example/g01274/laws.FnExactLaterPushes", spec := "fnExactLaterPushes", plainKeys := false, apart := false, narrowed := true }
def FnExactLaterPushesUptoSaid : Prop := fnExactLaterPushesUptoRow.holds Try.pinned (OpenSpec.upto fnExactLaterPushesSpec)

/-- 'laws.FnExactMoveMachine', WHERE WHAT IT READS IS OF BULK AT MOST 1048576: true; the input reads as it did. -/
def fnExactMoveMachineUptoRow : OpenClaim := { program := "ytffnfpnajkgnaaa", sum := "63c20b8e64dc364cfe5fb307ef056ae8403505286afb06875e33789585b6950d", func := "loop.example/g01274/laws.FnExactMoveMachine", spec := "fnExactMoveMachine", unfollowed := true, recurses := true, plainKeys := false, apart := false, narrowed := true }
def FnExactMoveMachineUptoSaid : Prop := fnExactMoveMachineUptoRow.holds Try.pinned (OpenSpec.upto fnExactMoveMachineSpec)

/-- 'laws.FnExactValidBoard', WHERE WHAT IT READS IS OF BULK AT MOST 1048576: true; the input reads as it did. -/
def fnExactValidBoardUptoRow : OpenClaim := { program := "ytffnfpnajkgnaaa", sum := "63c20b8e64dc364cfe5fb307ef056ae8403505286afb06875e33789585b6950d", func := "loop.example/g01274/laws.FnExactValidBoard", spec := "fnExactValidBoard", plainKeys := false, apart := false, narrowed := true }
def FnExactValidBoardUptoSaid : Prop := fnExactValidBoardUptoRow.holds Try.pinned (OpenSpec.upto fnExactValidBoardSpec)

/-- 'laws.FnExactCountKinds', WHERE WHAT IT READS IS OF BULK AT MOST 1048576: true; the input reads as it did. -/
def fnExactCountKindsUptoRow : OpenClaim := { program := "ytffnfpnajkgnaaa", sum := "63c20b8e64dc364cfe5fb307ef056ae8403505286afb06875e33789585b6950d", func := "loop.example/g01274/laws.FnExactCountKinds", spec := "fnExactCountKinds", plainKeys := false, apart := false, narrowed := true }
def FnExactCountKindsUptoSaid : Prop := fnExactCountKindsUptoRow.holds Try.pinned (OpenSpec.upto fnExactCountKindsSpec)

/-- 'laws.FnExactSortBoard', WHERE WHAT IT READS IS OF BULK AT MOST 1048576: true; the input reads as it did. -/
def fnExactSortBoardUptoRow : OpenClaim := { program := "ytffnfpnajkgnaaa", sum := "63c20b8e64dc364cfe5fb307ef056ae8403505286afb06875e33789585b6950d", func := "loop.example/g01274/laws.FnExactSortBoard", spec := "fnExactSortBoard", unfollowed := true, recurses := true, plainKeys := false, apart := false, narrowed := true }
def FnExactSortBoardUptoSaid : Prop := fnExactSortBoardUptoRow.holds Try.pinned (OpenSpec.upto fnExactSortBoardSpec)

/-- 'laws.FnExactPieceAt', WHERE WHAT IT READS IS OF BULK AT MOST 1048576: true; the input reads as it did. -/
def fnExactPieceAtUptoRow : OpenClaim := { program := "ytffnfpnajkgnaaa", sum := "63c20b8e64dc364cfe5fb307ef056ae8403505286afb06875e33789585b6950d", func := "loop.example/g01274/laws.FnExactPieceAt", spec := "fnExactPieceAt", unfollowed := true, recurses := true, plainKeys := false, apart := false, narrowed := true }
def FnExactPieceAtUptoSaid : Prop := fnExactPieceAtUptoRow.holds Try.pinned (OpenSpec.upto fnExactPieceAtSpec)

/-- 'laws.FnExactNeighboursOf', WHERE WHAT IT READS IS OF BULK AT MOST 1048576: true; the input reads as it did. -/
def fnExactNeighboursOfUptoRow : OpenClaim := { program := "ytffnfpnajkgnaaa", sum := "63c20b8e64dc364cfe5fb307ef056ae8403505286afb06875e33789585b6950d", func := "loop.example/g01274/laws.FnExactNeighboursOf", spec := "fnExactNeighboursOf", unfollowed := true, recurses := true, plainKeys := false, apart := false, narrowed := true }
def FnExactNeighboursOfUptoSaid : Prop := fnExactNeighboursOfUptoRow.holds Try.pinned (OpenSpec.upto fnExactNeighboursOfSpec)

/-- 'laws.FnExactValidPushes', WHERE WHAT IT READS IS OF BULK AT MOST 1048576: true; the input reads as it did. -/
def fnExactValidPushesUptoRow : OpenClaim := { program := "ytffnfpnajkgnaaa", sum := "63c20b8e64dc364cfe5fb307ef056ae8403505286afb06875e33789585b6950d", func := "loop.example/g01274/laws.FnExactValidPushes", spec := "fnExactValidPushes", unfollowed := true, recurses := true, plainKeys := false, apart := false, narrowed := true }
def FnExactValidPushesUptoSaid : Prop := fnExactValidPushesUptoRow.holds Try.pinned (OpenSpec.upto fnExactValidPushesSpec)

/-- 'laws.FnExactSameMachine', WHERE WHAT IT READS IS OF BULK AT MOST 1048576: true; the input reads as it did. -/
def fnExactSameMachineUptoRow : OpenClaim := { program := "ytffnfpnajkgnaaa", sum := "63c20b8e64dc364cfe5fb307ef056ae8403505286afb06875e33789585b6950d", func := "loop.example/g01274/laws.FnExactSameMachine", spec := "fnExactSameMachine", plainKeys := false, apart := false, narrowed := true }
def FnExactSameMachineUptoSaid : Prop := fnExactSameMachineUptoRow.holds Try.pinned (OpenSpec.upto fnExactSameMachineSpec)

/-- 'laws.FnExactMoveBoard', WHERE WHAT IT READS IS OF BULK AT MOST 1048576: true; the input reads as it did. -/
def fnExactMoveBoardUptoRow : OpenClaim := { program := "ytffnfpnajkgnaaa", sum := "63c20b8e64dc364cfe5fb307ef056ae8403505286afb06875e33789585b6950d", func := "loop.example/g01274/laws.FnExactMoveBoard", spec := "fnExactMoveBoard", plainKeys := false, apart := false, narrowed := true }
def FnExactMoveBoardUptoSaid : Prop := fnExactMoveBoardUptoRow.holds Try.pinned (OpenSpec.upto fnExactMoveBoardSpec)

/-- 'laws.FnExactPutPiece', WHERE WHAT IT READS IS OF BULK AT MOST 1048576: true; the input reads as it did. -/
def fnExactPutPieceUptoRow : OpenClaim := { program := "ytffnfpnajkgnaaa", sum := "63c20b8e64dc364cfe5fb307ef056ae8403505286afb06875e33789585b6950d", func := "loop.example/g01274/laws.FnExactPutPiece", spec := "fnExactPutPiece", unfollowed := true, recurses := true, plainKeys := false, apart := false, narrowed := true }
def FnExactPutPieceUptoSaid : Prop := fnExactPutPieceUptoRow.holds Try.pinned (OpenSpec.upto fnExactPutPieceSpec)

/-- 'laws.FnExactTakePiece', WHERE WHAT IT READS IS OF BULK AT MOST 1048576: true; the input reads as it did. -/
def fnExactTakePieceUptoRow : OpenClaim := { program := "ytffnfpnajkgnaaa", sum := "63c20b8e64dc364cfe5fb307ef056ae8403505286afb06875e33789585b6950d", func := "loop.example/g01274/laws.FnExactTakePiece", spec := "fnExactTakePiece", unfollowed := true, recurses := true, plainKeys := false, apart := false, narrowed := true }
def FnExactTakePieceUptoSaid : Prop := fnExactTakePieceUptoRow.holds Try.pinned (OpenSpec.upto fnExactTakePieceSpec)

/-- 'laws.FnExactTurnBoard', WHERE WHAT IT READS IS OF BULK AT MOST 1048576: true; the input reads as it did. -/
def fnExactTurnBoardUptoRow : OpenClaim := { program := "ytffnfpnajkgnaaa", sum := "63c20b8e64dc364cfe5fb307ef056ae8403505286afb06875e33789585b6950d", func := "loop.example/g01274/laws.FnExactTurnBoard", spec := "fnExactTurnBoard", plainKeys := false, apart := false, narrowed := true }
def FnExactTurnBoardUptoSaid : Prop := fnExactTurnBoardUptoRow.holds Try.pinned (OpenSpec.upto fnExactTurnBoardSpec)

/-- 'laws.FnExactJoinBoards', WHERE WHAT IT READS IS OF BULK AT MOST 1048576: true; the input reads as it did. -/
def fnExactJoinBoardsUptoRow : OpenClaim := { program := "ytffnfpnajkgnaaa", sum := "63c20b8e64dc364cfe5fb307ef056ae8403505286afb06875e33789585b6950d", func := "loop.example/g01274/laws.FnExactJoinBoards", spec := "fnExactJoinBoards", unfollowed := true, recurses := true, plainKeys := false, apart := false, narrowed := true }
def FnExactJoinBoardsUptoSaid : Prop := fnExactJoinBoardsUptoRow.holds Try.pinned (OpenSpec.upto fnExactJoinBoardsSpec)

/-- 'laws.FnExactBoardPicture', WHERE WHAT IT READS IS OF BULK AT MOST 1048576: true; the input reads as it did. -/
def fnExactBoardPictureUptoRow : OpenClaim := { program := "ytffnfpnajkgnaaa", sum := "63c20b8e64dc364cfe5fb307ef056ae8403505286afb06875e33789585b6950d", func := "loop.example/g01274/laws.FnExactBoardPicture", spec := "fnExactBoardPicture", unfollowed := true, recurses := true, plainKeys := false, apart := false, narrowed := true }
def FnExactBoardPictureUptoSaid : Prop := fnExactBoardPictureUptoRow.holds Try.pinned (OpenSpec.upto fnExactBoardPictureSpec)

/-- 'laws.FnExactValidMachine', WHERE WHAT IT READS IS OF BULK AT MOST 1048576: true; the input reads as it did. -/
def fnExactValidMachineUptoRow : OpenClaim := { program := "ytffnfpnajkgnaaa", sum := "63c20b8e64dc364cfe5fb307ef056ae8403505286afb06875e33789585b6950d", func := "loop.example/g01274/laws.FnExactValidMachine", spec := "fnExactValidMachine", unfollowed := true, recurses := true, plainKeys := false, apart := false, narrowed := true }
def FnExactValidMachineUptoSaid : Prop := fnExactValidMachineUptoRow.holds Try.pinned (OpenSpec.upto fnExactValidMachineSpec)

/-- 'laws.FnExactNeverHit', WHERE WHAT IT READS IS OF BULK AT MOST 1048576: true; the input reads as it did. -/
def fnExactNeverHitUptoRow : OpenClaim := { program := "ytffnfpnajkgnaaa", sum := "63c20b8e64dc364cfe5fb307ef056ae8403505286afb06875e33789585b6950d", func := "loop.example/g01274/laws.FnExactNeverHit", spec := "fnExactNeverHit", unfollowed := true, recurses := true, plainKeys := false, apart := false, narrowed := true }
def FnExactNeverHitUptoSaid : Prop := fnExactNeverHitUptoRow.holds Try.pinned (OpenSpec.upto fnExactNeverHitSpec)

end Rows
end Go.Proofs.Ytffnfpnajkgnaaa
