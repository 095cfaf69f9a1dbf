/-
  DERIVED. GIVEN WITH THE SEED: THE CARDS: each row of YtnbjijkpenlpbaaDoorRows.lean that lists a variable, with what it lists TIED to the program's text (the seventh form; the later family's looks); each row that meets fmt, with fmt's text TOLD by the authors' own Lean function (tested against real Go, not proved from fmt's source: count such statements apart). THE CARD IS WHAT COUNTS. Prove the row's statement (the work); the ties are given (YtnbjijkpenlpbaaDoorTie.lean); close each card by the builder's one call (the guide's Derived/Test/ToyasCard.lean, 'card_holds'). Laid BY PROGRAM, IN A SANDBOX (cutbox-door.mjs). By AI agents, Wed Nov 11 2026. No macro, syntax, notation, axiom, sorry.
-/
import Derived.Test.YtnbjijkpenlpbaaDoorRows
import GoSem.ClaimSeven
namespace Go.Proofs.YtnbjijkpenlpbaaDoor
namespace Rows

/-- THE TIED CARD OF 'laws.FnExactPushesText'. -/
def fnExactPushesTextCard : Claim7 := { stood := { row := fnExactPushesTextRow, standIns := [], harness := (true, "c32de2c819c6376274a65e3a5f225674d65dec4d479b1ecbf86783c37dd7d983"), looks := false }, kinds := [], alts := [], laidByText := true, laidKinds := [.data, .data, .data], laidTests := true, laidLooks := .later }
def FnExactPushesTextCardSaid : Prop := Claim7.holds Tryd.pinned (.plain (OpenSpec.ofChange fnExactPushesTextSpec)) fnExactPushesTextCard

/-- THE TIED CARD OF 'laws.FnExactBoardText'. -/
def fnExactBoardTextCard : Claim7 := { stood := { row := fnExactBoardTextRow, standIns := [], harness := (true, "c32de2c819c6376274a65e3a5f225674d65dec4d479b1ecbf86783c37dd7d983"), looks := false }, kinds := [], alts := [], laidByText := true, laidKinds := [.data, .data, .data], laidTests := true, laidLooks := .later }
def FnExactBoardTextCardSaid : Prop := Claim7.holds Tryd.pinned (.plain (OpenSpec.ofChange fnExactBoardTextSpec)) fnExactBoardTextCard

/-- THE SECOND FORM's CARD OF 'laws.FnExactPushesText'. -/
def fnExactPushesTextUptoCard : Claim7 := { stood := { row := fnExactPushesTextUptoRow, standIns := [], harness := (true, "c32de2c819c6376274a65e3a5f225674d65dec4d479b1ecbf86783c37dd7d983"), looks := false }, kinds := [], alts := [], laidByText := true, laidKinds := [.data, .data, .data], laidTests := true, laidLooks := .later }
def FnExactPushesTextUptoCardSaid : Prop := Claim7.holds Tryd.pinned (.plain (OpenSpec.upto fnExactPushesTextSpec)) fnExactPushesTextUptoCard

/-- THE SECOND FORM's CARD OF 'laws.FnExactBoardText'. -/
def fnExactBoardTextUptoCard : Claim7 := { stood := { row := fnExactBoardTextUptoRow, standIns := [], harness := (true, "c32de2c819c6376274a65e3a5f225674d65dec4d479b1ecbf86783c37dd7d983"), looks := false }, kinds := [], alts := [], laidByText := true, laidKinds := [.data, .data, .data], laidTests := true, laidLooks := .later }
def FnExactBoardTextUptoCardSaid : Prop := Claim7.holds Tryd.pinned (.plain (OpenSpec.upto fnExactBoardTextSpec)) fnExactBoardTextUptoCard
end Rows
end Go.Proofs.YtnbjijkpenlpbaaDoor
