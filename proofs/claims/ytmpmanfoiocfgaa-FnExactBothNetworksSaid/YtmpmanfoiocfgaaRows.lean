/-
  No cell of these rows narrows 'for every input' (looked for: loops, veiled, ifaces, maps, wideKeys, modest, calm, conditions, laid).
  DERIVED. THE GIVEN ROWS OF THIS SEAT. 18 by the template 'for every input the law returns true; each argument reads behind the call as it read before'; 0 by the template 'total and deterministic' (their statements: YtmpmanfoiocfgaaTotals.lean).
  GIVEN WITH THE SEED: the statements are not yours to turn. If you find one false, say at which input.
  Laid BY PROGRAM, IN A SANDBOX (cutbox-rows.mjs): the forced cells as the released guide's own fill.sh prints them over the translation 775a4bdab8ca6cf8… (all of the seat's roots in one cut). By AI agents, Wed Nov 11 2026. No macro, syntax, notation, axiom, sorry.
-/
import Derived.Test.YtmpmanfoiocfgaaChecked
import GoSem.Claim
import GoSem.ClaimJoined
import GoSem.ClaimMapViews
import Derived.JoinedTies
import Derived.KernelRfl
namespace Go.Proofs.Ytmpmanfoiocfgaa
/- THE CELL 'sum', in the pinned program and in every row, IS THE sha256 OF THE DUMP (.gsa) THAT YtmpmanfoiocfgaaProg.lean LOADS. Nothing in Lean hashes anything: it is a label: what it is worth is what the hold of that sum in a sandbox is worth. -/
noncomputable def Try.pinned : Pinned := { name := "ytmpmanfoiocfgaa", sum := "775a4bdab8ca6cf846d64770ad25e4463d1c0ae62bfbdcca88b007f5f960e68d", checked := Try.checked }
namespace Rows
def none {H : Type} : Left H := { results := [], args := [] }

/-- 'laws.FnExactSameNetwork': WHATEVER THE INPUT: true; the input reads as it did. -/
def fnExactSameNetworkSpec : ChangeSpec := { name := "fnExactSameNetwork", fn := fun _ => fun
  | [d1, d2] => { results := [.lit (.bool true)], args := [d1, d2] }
  | _ => none }
def fnExactSameNetworkRow : OpenClaim := { program := "ytmpmanfoiocfgaa", sum := "775a4bdab8ca6cf846d64770ad25e4463d1c0ae62bfbdcca88b007f5f960e68d", func := "loop.example/g01274/laws.FnExactSameNetwork", spec := "fnExactSameNetwork", apart := false }
def FnExactSameNetworkSaid : Prop := fnExactSameNetworkRow.holds Try.pinned (OpenSpec.ofChange fnExactSameNetworkSpec)

/-- ITS FALSE NEIGHBOUR: 'it returns false'. Refute it at one input. -/
def fnExactSameNetworkWrong : ChangeSpec := { name := "fnExactSameNetwork", fn := fun _ => fun
  | [d1, d2] => { results := [.lit (.bool false)], args := [d1, d2] }
  | _ => none }
def FnExactSameNetworkWrongFalsely : Prop := fnExactSameNetworkRow.holds Try.pinned (OpenSpec.ofChange fnExactSameNetworkWrong)

/-- 'laws.FnExactValidNetwork': WHATEVER THE INPUT: true; the input reads as it did. -/
def fnExactValidNetworkSpec : ChangeSpec := { name := "fnExactValidNetwork", fn := fun _ => fun
  | [d] => { results := [.lit (.bool true)], args := [d] }
  | _ => none }
def fnExactValidNetworkRow : OpenClaim := { program := "ytmpmanfoiocfgaa", sum := "775a4bdab8ca6cf846d64770ad25e4463d1c0ae62bfbdcca88b007f5f960e68d", func := "loop.example/g01274/laws.FnExactValidNetwork", spec := "fnExactValidNetwork", unfollowed := true, recurses := true, apart := false }
def FnExactValidNetworkSaid : Prop := fnExactValidNetworkRow.holds Try.pinned (OpenSpec.ofChange fnExactValidNetworkSpec)

/-- ITS FALSE NEIGHBOUR: 'it returns false'. Refute it at one input. -/
def fnExactValidNetworkWrong : ChangeSpec := { name := "fnExactValidNetwork", fn := fun _ => fun
  | [d] => { results := [.lit (.bool false)], args := [d] }
  | _ => none }
def FnExactValidNetworkWrongFalsely : Prop := fnExactValidNetworkRow.holds Try.pinned (OpenSpec.ofChange fnExactValidNetworkWrong)

/-- 'laws.FnExactCountNodes': WHATEVER THE INPUT: true; the input reads as it did. -/
def fnExactCountNodesSpec : ChangeSpec := { name := "fnExactCountNodes", fn := fun _ => fun
  | [d] => { results := [.lit (.bool true)], args := [d] }
  | _ => none }
def fnExactCountNodesRow : OpenClaim := { program := "ytmpmanfoiocfgaa", sum := "775a4bdab8ca6cf846d64770ad25e4463d1c0ae62bfbdcca88b007f5f960e68d", func := "loop.example/g01274/laws.FnExactCountNodes", spec := "fnExactCountNodes", unfollowed := true, recurses := true, apart := false }
def FnExactCountNodesSaid : Prop := fnExactCountNodesRow.holds Try.pinned (OpenSpec.ofChange fnExactCountNodesSpec)

/-- ITS FALSE NEIGHBOUR: 'it returns false'. Refute it at one input. -/
def fnExactCountNodesWrong : ChangeSpec := { name := "fnExactCountNodes", fn := fun _ => fun
  | [d] => { results := [.lit (.bool false)], args := [d] }
  | _ => none }
def FnExactCountNodesWrongFalsely : Prop := fnExactCountNodesRow.holds Try.pinned (OpenSpec.ofChange fnExactCountNodesWrong)

/-- 'laws.FnExactPiecesOf': WHATEVER THE INPUT: true; the input reads as it did. -/
def fnExactPiecesOfSpec : ChangeSpec := { name := "fnExactPiecesOf", fn := fun _ => fun
  | [d] => { results := [.lit (.bool true)], args := [d] }
  | _ => none }
def fnExactPiecesOfRow : OpenClaim := { program := "ytmpmanfoiocfgaa", sum := "775a4bdab8ca6cf846d64770ad25e4463d1c0ae62bfbdcca88b007f5f960e68d", func := "loop.example/g01274/laws.FnExactPiecesOf", spec := "fnExactPiecesOf", unfollowed := true, recurses := true, apart := false }
def FnExactPiecesOfSaid : Prop := fnExactPiecesOfRow.holds Try.pinned (OpenSpec.ofChange fnExactPiecesOfSpec)

/-- ITS FALSE NEIGHBOUR: 'it returns false'. Refute it at one input. -/
def fnExactPiecesOfWrong : ChangeSpec := { name := "fnExactPiecesOf", fn := fun _ => fun
  | [d] => { results := [.lit (.bool false)], args := [d] }
  | _ => none }
def FnExactPiecesOfWrongFalsely : Prop := fnExactPiecesOfRow.holds Try.pinned (OpenSpec.ofChange fnExactPiecesOfWrong)

/-- 'laws.FnExactDepthOf': WHATEVER THE INPUT: true; the input reads as it did. -/
def fnExactDepthOfSpec : ChangeSpec := { name := "fnExactDepthOf", fn := fun _ => fun
  | [d] => { results := [.lit (.bool true)], args := [d] }
  | _ => none }
def fnExactDepthOfRow : OpenClaim := { program := "ytmpmanfoiocfgaa", sum := "775a4bdab8ca6cf846d64770ad25e4463d1c0ae62bfbdcca88b007f5f960e68d", func := "loop.example/g01274/laws.FnExactDepthOf", spec := "fnExactDepthOf", unfollowed := true, recurses := true, apart := false }
def FnExactDepthOfSaid : Prop := fnExactDepthOfRow.holds Try.pinned (OpenSpec.ofChange fnExactDepthOfSpec)

/-- ITS FALSE NEIGHBOUR: 'it returns false'. Refute it at one input. -/
def fnExactDepthOfWrong : ChangeSpec := { name := "fnExactDepthOf", fn := fun _ => fun
  | [d] => { results := [.lit (.bool false)], args := [d] }
  | _ => none }
def FnExactDepthOfWrongFalsely : Prop := fnExactDepthOfRow.holds Try.pinned (OpenSpec.ofChange fnExactDepthOfWrong)

/-- 'laws.FnExactFormulaOf': WHATEVER THE INPUT: true; the input reads as it did. -/
def fnExactFormulaOfSpec : ChangeSpec := { name := "fnExactFormulaOf", fn := fun _ => fun
  | [d1, d2] => { results := [.lit (.bool true)], args := [d1, d2] }
  | _ => none }
def fnExactFormulaOfRow : OpenClaim := { program := "ytmpmanfoiocfgaa", sum := "775a4bdab8ca6cf846d64770ad25e4463d1c0ae62bfbdcca88b007f5f960e68d", func := "loop.example/g01274/laws.FnExactFormulaOf", spec := "fnExactFormulaOf", unfollowed := true, recurses := true, apart := false }
def FnExactFormulaOfSaid : Prop := fnExactFormulaOfRow.holds Try.pinned (OpenSpec.ofChange fnExactFormulaOfSpec)

/-- ITS FALSE NEIGHBOUR: 'it returns false'. Refute it at one input. -/
def fnExactFormulaOfWrong : ChangeSpec := { name := "fnExactFormulaOf", fn := fun _ => fun
  | [d1, d2] => { results := [.lit (.bool false)], args := [d1, d2] }
  | _ => none }
def FnExactFormulaOfWrongFalsely : Prop := fnExactFormulaOfRow.holds Try.pinned (OpenSpec.ofChange fnExactFormulaOfWrong)

/-- 'laws.FnExactEvalNetwork': WHATEVER THE INPUT: true; the input reads as it did. -/
def fnExactEvalNetworkSpec : ChangeSpec := { name := "fnExactEvalNetwork", fn := fun _ => fun
  | [d1, d2] => { results := [.lit (.bool true)], args := [d1, d2] }
  | _ => none }
def fnExactEvalNetworkRow : OpenClaim := { program := "ytmpmanfoiocfgaa", sum := "775a4bdab8ca6cf846d64770ad25e4463d1c0ae62bfbdcca88b007f5f960e68d", func := "loop.example/g01274/laws.FnExactEvalNetwork", spec := "fnExactEvalNetwork", unfollowed := true, recurses := true, apart := false }
def FnExactEvalNetworkSaid : Prop := fnExactEvalNetworkRow.holds Try.pinned (OpenSpec.ofChange fnExactEvalNetworkSpec)

/-- ITS FALSE NEIGHBOUR: 'it returns false'. Refute it at one input. -/
def fnExactEvalNetworkWrong : ChangeSpec := { name := "fnExactEvalNetwork", fn := fun _ => fun
  | [d1, d2] => { results := [.lit (.bool false)], args := [d1, d2] }
  | _ => none }
def FnExactEvalNetworkWrongFalsely : Prop := fnExactEvalNetworkRow.holds Try.pinned (OpenSpec.ofChange fnExactEvalNetworkWrong)

/-- 'laws.FnExactDiffer': WHATEVER THE INPUT: true; the input reads as it did. -/
def fnExactDifferSpec : ChangeSpec := { name := "fnExactDiffer", fn := fun _ => fun
  | [d1, d2] => { results := [.lit (.bool true)], args := [d1, d2] }
  | _ => none }
def fnExactDifferRow : OpenClaim := { program := "ytmpmanfoiocfgaa", sum := "775a4bdab8ca6cf846d64770ad25e4463d1c0ae62bfbdcca88b007f5f960e68d", func := "loop.example/g01274/laws.FnExactDiffer", spec := "fnExactDiffer", unfollowed := true, recurses := true, apart := false }
def FnExactDifferSaid : Prop := fnExactDifferRow.holds Try.pinned (OpenSpec.ofChange fnExactDifferSpec)

/-- ITS FALSE NEIGHBOUR: 'it returns false'. Refute it at one input. -/
def fnExactDifferWrong : ChangeSpec := { name := "fnExactDiffer", fn := fun _ => fun
  | [d1, d2] => { results := [.lit (.bool false)], args := [d1, d2] }
  | _ => none }
def FnExactDifferWrongFalsely : Prop := fnExactDifferRow.holds Try.pinned (OpenSpec.ofChange fnExactDifferWrong)

/-- 'laws.FnExactCheckMerge': WHATEVER THE INPUT: true; the input reads as it did. -/
def fnExactCheckMergeSpec : ChangeSpec := { name := "fnExactCheckMerge", fn := fun _ => fun
  | [d1, d2, d3] => { results := [.lit (.bool true)], args := [d1, d2, d3] }
  | _ => none }
def fnExactCheckMergeRow : OpenClaim := { program := "ytmpmanfoiocfgaa", sum := "775a4bdab8ca6cf846d64770ad25e4463d1c0ae62bfbdcca88b007f5f960e68d", func := "loop.example/g01274/laws.FnExactCheckMerge", spec := "fnExactCheckMerge", unfollowed := true, recurses := true, apart := false }
def FnExactCheckMergeSaid : Prop := fnExactCheckMergeRow.holds Try.pinned (OpenSpec.ofChange fnExactCheckMergeSpec)

/-- ITS FALSE NEIGHBOUR: 'it returns false'. Refute it at one input. -/
def fnExactCheckMergeWrong : ChangeSpec := { name := "fnExactCheckMerge", fn := fun _ => fun
  | [d1, d2, d3] => { results := [.lit (.bool false)], args := [d1, d2, d3] }
  | _ => none }
def FnExactCheckMergeWrongFalsely : Prop := fnExactCheckMergeRow.holds Try.pinned (OpenSpec.ofChange fnExactCheckMergeWrong)

/-- 'laws.FnExactTablesOf': WHATEVER THE INPUT: true; the input reads as it did. -/
def fnExactTablesOfSpec : ChangeSpec := { name := "fnExactTablesOf", fn := fun _ => fun
  | [d] => { results := [.lit (.bool true)], args := [d] }
  | _ => none }
def fnExactTablesOfRow : OpenClaim := { program := "ytmpmanfoiocfgaa", sum := "775a4bdab8ca6cf846d64770ad25e4463d1c0ae62bfbdcca88b007f5f960e68d", func := "loop.example/g01274/laws.FnExactTablesOf", spec := "fnExactTablesOf", unfollowed := true, recurses := true, apart := false }
def FnExactTablesOfSaid : Prop := fnExactTablesOfRow.holds Try.pinned (OpenSpec.ofChange fnExactTablesOfSpec)

/-- ITS FALSE NEIGHBOUR: 'it returns false'. Refute it at one input. -/
def fnExactTablesOfWrong : ChangeSpec := { name := "fnExactTablesOf", fn := fun _ => fun
  | [d] => { results := [.lit (.bool false)], args := [d] }
  | _ => none }
def FnExactTablesOfWrongFalsely : Prop := fnExactTablesOfRow.holds Try.pinned (OpenSpec.ofChange fnExactTablesOfWrong)

/-- 'laws.FnExactOutputTables': WHATEVER THE INPUT: true; the input reads as it did. -/
def fnExactOutputTablesSpec : ChangeSpec := { name := "fnExactOutputTables", fn := fun _ => fun
  | [d] => { results := [.lit (.bool true)], args := [d] }
  | _ => none }
def fnExactOutputTablesRow : OpenClaim := { program := "ytmpmanfoiocfgaa", sum := "775a4bdab8ca6cf846d64770ad25e4463d1c0ae62bfbdcca88b007f5f960e68d", func := "loop.example/g01274/laws.FnExactOutputTables", spec := "fnExactOutputTables", unfollowed := true, recurses := true, apart := false }
def FnExactOutputTablesSaid : Prop := fnExactOutputTablesRow.holds Try.pinned (OpenSpec.ofChange fnExactOutputTablesSpec)

/-- ITS FALSE NEIGHBOUR: 'it returns false'. Refute it at one input. -/
def fnExactOutputTablesWrong : ChangeSpec := { name := "fnExactOutputTables", fn := fun _ => fun
  | [d] => { results := [.lit (.bool false)], args := [d] }
  | _ => none }
def FnExactOutputTablesWrongFalsely : Prop := fnExactOutputTablesRow.holds Try.pinned (OpenSpec.ofChange fnExactOutputTablesWrong)

/-- 'laws.FnExactTrimNetwork': WHATEVER THE INPUT: true; the input reads as it did. -/
def fnExactTrimNetworkSpec : ChangeSpec := { name := "fnExactTrimNetwork", fn := fun _ => fun
  | [d] => { results := [.lit (.bool true)], args := [d] }
  | _ => none }
def fnExactTrimNetworkRow : OpenClaim := { program := "ytmpmanfoiocfgaa", sum := "775a4bdab8ca6cf846d64770ad25e4463d1c0ae62bfbdcca88b007f5f960e68d", func := "loop.example/g01274/laws.FnExactTrimNetwork", spec := "fnExactTrimNetwork", unfollowed := true, recurses := true, apart := false }
def FnExactTrimNetworkSaid : Prop := fnExactTrimNetworkRow.holds Try.pinned (OpenSpec.ofChange fnExactTrimNetworkSpec)

/-- ITS FALSE NEIGHBOUR: 'it returns false'. Refute it at one input. -/
def fnExactTrimNetworkWrong : ChangeSpec := { name := "fnExactTrimNetwork", fn := fun _ => fun
  | [d] => { results := [.lit (.bool false)], args := [d] }
  | _ => none }
def FnExactTrimNetworkWrongFalsely : Prop := fnExactTrimNetworkRow.holds Try.pinned (OpenSpec.ofChange fnExactTrimNetworkWrong)

/-- 'laws.FnExactBothNetworks': WHATEVER THE INPUT: true; the input reads as it did. -/
def fnExactBothNetworksSpec : ChangeSpec := { name := "fnExactBothNetworks", fn := fun _ => fun
  | [d1, d2] => { results := [.lit (.bool true)], args := [d1, d2] }
  | _ => none }
def fnExactBothNetworksRow : OpenClaim := { program := "ytmpmanfoiocfgaa", sum := "775a4bdab8ca6cf846d64770ad25e4463d1c0ae62bfbdcca88b007f5f960e68d", func := "loop.example/g01274/laws.FnExactBothNetworks", spec := "fnExactBothNetworks", unfollowed := true, recurses := true, apart := false }
def FnExactBothNetworksSaid : Prop := fnExactBothNetworksRow.holds Try.pinned (OpenSpec.ofChange fnExactBothNetworksSpec)

/-- ITS FALSE NEIGHBOUR: 'it returns false'. Refute it at one input. -/
def fnExactBothNetworksWrong : ChangeSpec := { name := "fnExactBothNetworks", fn := fun _ => fun
  | [d1, d2] => { results := [.lit (.bool false)], args := [d1, d2] }
  | _ => none }
def FnExactBothNetworksWrongFalsely : Prop := fnExactBothNetworksRow.holds Try.pinned (OpenSpec.ofChange fnExactBothNetworksWrong)

/-- 'laws.FnExactNeedsOf': WHATEVER THE INPUT: true; the input reads as it did. -/
def fnExactNeedsOfSpec : ChangeSpec := { name := "fnExactNeedsOf", fn := fun _ => fun
  | [d] => { results := [.lit (.bool true)], args := [d] }
  | _ => none }
def fnExactNeedsOfRow : OpenClaim := { program := "ytmpmanfoiocfgaa", sum := "775a4bdab8ca6cf846d64770ad25e4463d1c0ae62bfbdcca88b007f5f960e68d", func := "loop.example/g01274/laws.FnExactNeedsOf", spec := "fnExactNeedsOf", unfollowed := true, recurses := true, apart := false }
def FnExactNeedsOfSaid : Prop := fnExactNeedsOfRow.holds Try.pinned (OpenSpec.ofChange fnExactNeedsOfSpec)

/-- ITS FALSE NEIGHBOUR: 'it returns false'. Refute it at one input. -/
def fnExactNeedsOfWrong : ChangeSpec := { name := "fnExactNeedsOf", fn := fun _ => fun
  | [d] => { results := [.lit (.bool false)], args := [d] }
  | _ => none }
def FnExactNeedsOfWrongFalsely : Prop := fnExactNeedsOfRow.holds Try.pinned (OpenSpec.ofChange fnExactNeedsOfWrong)

/-- 'laws.FnAdders': WHATEVER THE INPUT: true; the input reads as it did. -/
def fnAddersSpec : ChangeSpec := { name := "fnAdders", fn := fun _ => fun
  | [d1, d2] => { results := [.lit (.bool true)], args := [d1, d2] }
  | _ => none }
def fnAddersRow : OpenClaim := { program := "ytmpmanfoiocfgaa", sum := "775a4bdab8ca6cf846d64770ad25e4463d1c0ae62bfbdcca88b007f5f960e68d", func := "loop.example/g01274/laws.FnAdders", spec := "fnAdders", unfollowed := true, recurses := true, apart := false }
def FnAddersSaid : Prop := fnAddersRow.holds Try.pinned (OpenSpec.ofChange fnAddersSpec)

/-- ITS FALSE NEIGHBOUR: 'it returns false'. Refute it at one input. -/
def fnAddersWrong : ChangeSpec := { name := "fnAdders", fn := fun _ => fun
  | [d1, d2] => { results := [.lit (.bool false)], args := [d1, d2] }
  | _ => none }
def FnAddersWrongFalsely : Prop := fnAddersRow.holds Try.pinned (OpenSpec.ofChange fnAddersWrong)

/-- 'laws.FnExactMergeOf': WHATEVER THE INPUT: true; the input reads as it did. -/
def fnExactMergeOfSpec : ChangeSpec := { name := "fnExactMergeOf", fn := fun _ => fun
  | [d] => { results := [.lit (.bool true)], args := [d] }
  | _ => none }
def fnExactMergeOfRow : OpenClaim := { program := "ytmpmanfoiocfgaa", sum := "775a4bdab8ca6cf846d64770ad25e4463d1c0ae62bfbdcca88b007f5f960e68d", func := "loop.example/g01274/laws.FnExactMergeOf", spec := "fnExactMergeOf", unfollowed := true, recurses := true, apart := false }
def FnExactMergeOfSaid : Prop := fnExactMergeOfRow.holds Try.pinned (OpenSpec.ofChange fnExactMergeOfSpec)

/-- ITS FALSE NEIGHBOUR: 'it returns false'. Refute it at one input. -/
def fnExactMergeOfWrong : ChangeSpec := { name := "fnExactMergeOf", fn := fun _ => fun
  | [d] => { results := [.lit (.bool false)], args := [d] }
  | _ => none }
def FnExactMergeOfWrongFalsely : Prop := fnExactMergeOfRow.holds Try.pinned (OpenSpec.ofChange fnExactMergeOfWrong)

/-- 'laws.FnExactSimplifyNetwork': WHATEVER THE INPUT: true; the input reads as it did. -/
def fnExactSimplifyNetworkSpec : ChangeSpec := { name := "fnExactSimplifyNetwork", fn := fun _ => fun
  | [d] => { results := [.lit (.bool true)], args := [d] }
  | _ => none }
def fnExactSimplifyNetworkRow : OpenClaim := { program := "ytmpmanfoiocfgaa", sum := "775a4bdab8ca6cf846d64770ad25e4463d1c0ae62bfbdcca88b007f5f960e68d", func := "loop.example/g01274/laws.FnExactSimplifyNetwork", spec := "fnExactSimplifyNetwork", unfollowed := true, recurses := true, apart := false }
def FnExactSimplifyNetworkSaid : Prop := fnExactSimplifyNetworkRow.holds Try.pinned (OpenSpec.ofChange fnExactSimplifyNetworkSpec)

/-- ITS FALSE NEIGHBOUR: 'it returns false'. Refute it at one input. -/
def fnExactSimplifyNetworkWrong : ChangeSpec := { name := "fnExactSimplifyNetwork", fn := fun _ => fun
  | [d] => { results := [.lit (.bool false)], args := [d] }
  | _ => none }
def FnExactSimplifyNetworkWrongFalsely : Prop := fnExactSimplifyNetworkRow.holds Try.pinned (OpenSpec.ofChange fnExactSimplifyNetworkWrong)

/-- 'laws.FnExactAdderOf': WHATEVER THE INPUT: true; the input reads as it did. -/
def fnExactAdderOfSpec : ChangeSpec := { name := "fnExactAdderOf", fn := fun _ => fun
  | [d] => { results := [.lit (.bool true)], args := [d] }
  | _ => none }
def fnExactAdderOfRow : OpenClaim := { program := "ytmpmanfoiocfgaa", sum := "775a4bdab8ca6cf846d64770ad25e4463d1c0ae62bfbdcca88b007f5f960e68d", func := "loop.example/g01274/laws.FnExactAdderOf", spec := "fnExactAdderOf", unfollowed := true, recurses := true, apart := false }
def FnExactAdderOfSaid : Prop := fnExactAdderOfRow.holds Try.pinned (OpenSpec.ofChange fnExactAdderOfSpec)

/-- ITS FALSE NEIGHBOUR: 'it returns false'. Refute it at one input. -/
def fnExactAdderOfWrong : ChangeSpec := { name := "fnExactAdderOf", fn := fun _ => fun
  | [d] => { results := [.lit (.bool false)], args := [d] }
  | _ => none }
def FnExactAdderOfWrongFalsely : Prop := fnExactAdderOfRow.holds Try.pinned (OpenSpec.ofChange fnExactAdderOfWrong)

/- THE SECOND FORM. 'bulk': how many values and letters a reading holds, each counted each time it is reached (what is shared counts as often as it is met; a slice's spare places count too). A statement '..UptoSaid' is the law's where the arguments, and the package variables that the reading takes, are together of bulk at most 1048576: NARROWER than '..Said'. Prove '..Said' where nothing that the law and all that it calls make is longer than what came in: it says more and counts as full. Else prove '..UptoSaid'. A law counts once. -/
mutual
def uptoBulk {H : Type} : DataW H → Nat
  | .lit (.string bytes) => bytes.length + 1
  | .lit _ => 1
  | .nil => 1
  | .ptr d => uptoBulk d + 1
  | .slice elems spare => uptoBulkAll elems + uptoBulkAll spare + 1
  | .agg parts => uptoBulkAll parts + 1
  | .iface _ d => uptoBulk d + 1
  | .map entries => uptoBulkEntries entries + 1
  | .held _ => 1
def uptoBulkAll {H : Type} : List (DataW H) → Nat
  | [] => 0
  | d :: r => uptoBulk d + uptoBulkAll r
def uptoBulkEntries {H : Type} : List (Lit × DataW H) → Nat
  | [] => 0
  | x :: r => uptoBulkEntry x + uptoBulkEntries r
def uptoBulkEntry {H : Type} : Lit × DataW H → Nat
  | (.string bytes, d) => bytes.length + uptoBulk d + 1
  | (_, d) => uptoBulk d + 1
 end
def uptoSmall : (H : Type) → List (DataW H) → Bool := fun _ ds => decide (uptoBulkAll ds ≤ 1048576)
def OpenSpec.upto (s : _root_.Go.ChangeSpec) : _root_.Go.OpenSpec := { _root_.Go.OpenSpec.ofChange s with cond := some uptoSmall }

/-- 'laws.FnExactSameNetwork', WHERE WHAT IT READS IS OF BULK AT MOST 1048576: true; the input reads as it did. -/
def fnExactSameNetworkUptoRow : OpenClaim := { program := "ytmpmanfoiocfgaa", sum := "775a4bdab8ca6cf846d64770ad25e4463d1c0ae62bfbdcca88b007f5f960e68d", func := "loop.example/g01274/laws.FnExactSameNetwork", spec := "fnExactSameNetwork", apart := false, narrowed := true }
def FnExactSameNetworkUptoSaid : Prop := fnExactSameNetworkUptoRow.holds Try.pinned (OpenSpec.upto fnExactSameNetworkSpec)

/-- 'laws.FnExactValidNetwork', WHERE WHAT IT READS IS OF BULK AT MOST 1048576: true; the input reads as it did. -/
def fnExactValidNetworkUptoRow : OpenClaim := { program := "ytmpmanfoiocfgaa", sum := "775a4bdab8ca6cf846d64770ad25e4463d1c0ae62bfbdcca88b007f5f960e68d", func := "loop.example/g01274/laws.FnExactValidNetwork", spec := "fnExactValidNetwork", unfollowed := true, recurses := true, apart := false, narrowed := true }
def FnExactValidNetworkUptoSaid : Prop := fnExactValidNetworkUptoRow.holds Try.pinned (OpenSpec.upto fnExactValidNetworkSpec)

/-- 'laws.FnExactCountNodes', WHERE WHAT IT READS IS OF BULK AT MOST 1048576: true; the input reads as it did. -/
def fnExactCountNodesUptoRow : OpenClaim := { program := "ytmpmanfoiocfgaa", sum := "775a4bdab8ca6cf846d64770ad25e4463d1c0ae62bfbdcca88b007f5f960e68d", func := "loop.example/g01274/laws.FnExactCountNodes", spec := "fnExactCountNodes", unfollowed := true, recurses := true, apart := false, narrowed := true }
def FnExactCountNodesUptoSaid : Prop := fnExactCountNodesUptoRow.holds Try.pinned (OpenSpec.upto fnExactCountNodesSpec)

/-- 'laws.FnExactPiecesOf', WHERE WHAT IT READS IS OF BULK AT MOST 1048576: true; the input reads as it did. -/
def fnExactPiecesOfUptoRow : OpenClaim := { program := "ytmpmanfoiocfgaa", sum := "775a4bdab8ca6cf846d64770ad25e4463d1c0ae62bfbdcca88b007f5f960e68d", func := "loop.example/g01274/laws.FnExactPiecesOf", spec := "fnExactPiecesOf", unfollowed := true, recurses := true, apart := false, narrowed := true }
def FnExactPiecesOfUptoSaid : Prop := fnExactPiecesOfUptoRow.holds Try.pinned (OpenSpec.upto fnExactPiecesOfSpec)

/-- 'laws.FnExactDepthOf', WHERE WHAT IT READS IS OF BULK AT MOST 1048576: true; the input reads as it did. -/
def fnExactDepthOfUptoRow : OpenClaim := { program := "ytmpmanfoiocfgaa", sum := "775a4bdab8ca6cf846d64770ad25e4463d1c0ae62bfbdcca88b007f5f960e68d", func := "loop.example/g01274/laws.FnExactDepthOf", spec := "fnExactDepthOf", unfollowed := true, recurses := true, apart := false, narrowed := true }
def FnExactDepthOfUptoSaid : Prop := fnExactDepthOfUptoRow.holds Try.pinned (OpenSpec.upto fnExactDepthOfSpec)

/-- 'laws.FnExactFormulaOf', WHERE WHAT IT READS IS OF BULK AT MOST 1048576: true; the input reads as it did. -/
def fnExactFormulaOfUptoRow : OpenClaim := { program := "ytmpmanfoiocfgaa", sum := "775a4bdab8ca6cf846d64770ad25e4463d1c0ae62bfbdcca88b007f5f960e68d", func := "loop.example/g01274/laws.FnExactFormulaOf", spec := "fnExactFormulaOf", unfollowed := true, recurses := true, apart := false, narrowed := true }
def FnExactFormulaOfUptoSaid : Prop := fnExactFormulaOfUptoRow.holds Try.pinned (OpenSpec.upto fnExactFormulaOfSpec)

/-- 'laws.FnExactEvalNetwork', WHERE WHAT IT READS IS OF BULK AT MOST 1048576: true; the input reads as it did. -/
def fnExactEvalNetworkUptoRow : OpenClaim := { program := "ytmpmanfoiocfgaa", sum := "775a4bdab8ca6cf846d64770ad25e4463d1c0ae62bfbdcca88b007f5f960e68d", func := "loop.example/g01274/laws.FnExactEvalNetwork", spec := "fnExactEvalNetwork", unfollowed := true, recurses := true, apart := false, narrowed := true }
def FnExactEvalNetworkUptoSaid : Prop := fnExactEvalNetworkUptoRow.holds Try.pinned (OpenSpec.upto fnExactEvalNetworkSpec)

/-- 'laws.FnExactDiffer', WHERE WHAT IT READS IS OF BULK AT MOST 1048576: true; the input reads as it did. -/
def fnExactDifferUptoRow : OpenClaim := { program := "ytmpmanfoiocfgaa", sum := "775a4bdab8ca6cf846d64770ad25e4463d1c0ae62bfbdcca88b007f5f960e68d", func := "loop.example/g01274/laws.FnExactDiffer", spec := "fnExactDiffer", unfollowed := true, recurses := true, apart := false, narrowed := true }
def FnExactDifferUptoSaid : Prop := fnExactDifferUptoRow.holds Try.pinned (OpenSpec.upto fnExactDifferSpec)

/-- 'laws.FnExactCheckMerge', WHERE WHAT IT READS IS OF BULK AT MOST 1048576: true; the input reads as it did. -/
def fnExactCheckMergeUptoRow : OpenClaim := { program := "ytmpmanfoiocfgaa", sum := "775a4bdab8ca6cf846d64770ad25e4463d1c0ae62bfbdcca88b007f5f960e68d", func := "loop.example/g01274/laws.FnExactCheckMerge", spec := "fnExactCheckMerge", unfollowed := true, recurses := true, apart := false, narrowed := true }
def FnExactCheckMergeUptoSaid : Prop := fnExactCheckMergeUptoRow.holds Try.pinned (OpenSpec.upto fnExactCheckMergeSpec)

/-- 'laws.FnExactTablesOf', WHERE WHAT IT READS IS OF BULK AT MOST 1048576: true; the input reads as it did. -/
def fnExactTablesOfUptoRow : OpenClaim := { program := "ytmpmanfoiocfgaa", sum := "775a4bdab8ca6cf846d64770ad25e4463d1c0ae62bfbdcca88b007f5f960e68d", func := "loop.example/g01274/laws.FnExactTablesOf", spec := "fnExactTablesOf", unfollowed := true, recurses := true, apart := false, narrowed := true }
def FnExactTablesOfUptoSaid : Prop := fnExactTablesOfUptoRow.holds Try.pinned (OpenSpec.upto fnExactTablesOfSpec)

/-- 'laws.FnExactOutputTables', WHERE WHAT IT READS IS OF BULK AT MOST 1048576: true; the input reads as it did. -/
def fnExactOutputTablesUptoRow : OpenClaim := { program := "ytmpmanfoiocfgaa", sum := "775a4bdab8ca6cf846d64770ad25e4463d1c0ae62bfbdcca88b007f5f960e68d", func := "loop.example/g01274/laws.FnExactOutputTables", spec := "fnExactOutputTables", unfollowed := true, recurses := true, apart := false, narrowed := true }
def FnExactOutputTablesUptoSaid : Prop := fnExactOutputTablesUptoRow.holds Try.pinned (OpenSpec.upto fnExactOutputTablesSpec)

/-- 'laws.FnExactTrimNetwork', WHERE WHAT IT READS IS OF BULK AT MOST 1048576: true; the input reads as it did. -/
def fnExactTrimNetworkUptoRow : OpenClaim := { program := "ytmpmanfoiocfgaa", sum := "775a4bdab8ca6cf846d64770ad25e4463d1c0ae62bfbdcca88b007f5f960e68d", func := "loop.example/g01274/laws.FnExactTrimNetwork", spec := "fnExactTrimNetwork", unfollowed := true, recurses := true, apart := false, narrowed := true }
def FnExactTrimNetworkUptoSaid : Prop := fnExactTrimNetworkUptoRow.holds Try.pinned (OpenSpec.upto fnExactTrimNetworkSpec)

/-- 'laws.FnExactBothNetworks', WHERE WHAT IT READS IS OF BULK AT MOST 1048576: true; the input reads as it did. -/
def fnExactBothNetworksUptoRow : OpenClaim := { program := "ytmpmanfoiocfgaa", sum := "775a4bdab8ca6cf846d64770ad25e4463d1c0ae62bfbdcca88b007f5f960e68d", func := "loop.example/g01274/laws.FnExactBothNetworks", spec := "fnExactBothNetworks", unfollowed := true, recurses := true, apart := false, narrowed := true }
def FnExactBothNetworksUptoSaid : Prop := fnExactBothNetworksUptoRow.holds Try.pinned (OpenSpec.upto fnExactBothNetworksSpec)

/-- 'laws.FnExactNeedsOf', WHERE WHAT IT READS IS OF BULK AT MOST 1048576: true; the input reads as it did. -/
def fnExactNeedsOfUptoRow : OpenClaim := { program := "ytmpmanfoiocfgaa", sum := "775a4bdab8ca6cf846d64770ad25e4463d1c0ae62bfbdcca88b007f5f960e68d", func := "loop.example/g01274/laws.FnExactNeedsOf", spec := "fnExactNeedsOf", unfollowed := true, recurses := true, apart := false, narrowed := true }
def FnExactNeedsOfUptoSaid : Prop := fnExactNeedsOfUptoRow.holds Try.pinned (OpenSpec.upto fnExactNeedsOfSpec)

/-- 'laws.FnAdders', WHERE WHAT IT READS IS OF BULK AT MOST 1048576: true; the input reads as it did. -/
def fnAddersUptoRow : OpenClaim := { program := "ytmpmanfoiocfgaa", sum := "775a4bdab8ca6cf846d64770ad25e4463d1c0ae62bfbdcca88b007f5f960e68d", func := "loop.example/g01274/laws.FnAdders", spec := "fnAdders", unfollowed := true, recurses := true, apart := false, narrowed := true }
def FnAddersUptoSaid : Prop := fnAddersUptoRow.holds Try.pinned (OpenSpec.upto fnAddersSpec)

/-- 'laws.FnExactMergeOf', WHERE WHAT IT READS IS OF BULK AT MOST 1048576: true; the input reads as it did. -/
def fnExactMergeOfUptoRow : OpenClaim := { program := "ytmpmanfoiocfgaa", sum := "775a4bdab8ca6cf846d64770ad25e4463d1c0ae62bfbdcca88b007f5f960e68d", func := "loop.example/g01274/laws.FnExactMergeOf", spec := "fnExactMergeOf", unfollowed := true, recurses := true, apart := false, narrowed := true }
def FnExactMergeOfUptoSaid : Prop := fnExactMergeOfUptoRow.holds Try.pinned (OpenSpec.upto fnExactMergeOfSpec)

/-- 'laws.FnExactSimplifyNetwork', WHERE WHAT IT READS IS OF BULK AT MOST 1048576: true; the input reads as it did. -/
def fnExactSimplifyNetworkUptoRow : OpenClaim := { program := "ytmpmanfoiocfgaa", sum := "775a4bdab8ca6cf846d64770ad25e4463d1c0ae62bfbdcca88b007f5f960e68d", func := "loop.example/g01274/laws.FnExactSimplifyNetwork", spec := "fnExactSimplifyNetwork", unfollowed := true, recurses := true, apart := false, narrowed := true }
def FnExactSimplifyNetworkUptoSaid : Prop := fnExactSimplifyNetworkUptoRow.holds Try.pinned (OpenSpec.upto fnExactSimplifyNetworkSpec)

/-- 'laws.FnExactAdderOf', WHERE WHAT IT READS IS OF BULK AT MOST 1048576: true; the input reads as it did. -/
def fnExactAdderOfUptoRow : OpenClaim := { program := "ytmpmanfoiocfgaa", sum := "775a4bdab8ca6cf846d64770ad25e4463d1c0ae62bfbdcca88b007f5f960e68d", func := "loop.example/g01274/laws.FnExactAdderOf", spec := "fnExactAdderOf", unfollowed := true, recurses := true, apart := false, narrowed := true }
def FnExactAdderOfUptoSaid : Prop := fnExactAdderOfUptoRow.holds Try.pinned (OpenSpec.upto fnExactAdderOfSpec)

end Rows
end Go.Proofs.Ytmpmanfoiocfgaa
