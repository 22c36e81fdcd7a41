/-
  DERIVED. GIVEN WITH THE SEED: THE CARDS: each row of YtlcdnpecoaamcaaDoorRows.lean that lists a variable, with what it lists TIED to the program's text (the seventh form; the later family's looks); each row that meets fmt, with fmt's text TOLD by the authors' own Lean function (tested against real Go, not proved from fmt's source: count such statements apart). THE CARD IS WHAT COUNTS. Prove the row's statement (the work); the ties are given (YtlcdnpecoaamcaaDoorTie.lean); close each card by the builder's one call (the guide's Derived/Test/ToyasCard.lean, 'card_holds'). Laid BY PROGRAM, IN A SANDBOX (cutbox-door.mjs). By AI agents, Wed Nov 11 2026. No macro, syntax, notation, axiom, sorry.
-/
import Derived.Test.YtlcdnpecoaamcaaDoorRows
import GoSem.ClaimSeven
namespace Go.Proofs.YtlcdnpecoaamcaaDoor
namespace Rows

/-- THE TIED CARD OF 'quoinlaw14.ExtentLines'. -/
def extentLinesCard : Claim7 := { stood := { row := extentLinesRow, standIns := [], harness := (true, "3bb6ab3bd1535f23196e79092c5961278771c19acf704d269d824499abad5f18"), looks := false }, kinds := [], alts := [], laidByText := true, laidKinds := [.data, .pinned], laidTests := true, laidLooks := .later }
def ExtentLinesCardSaid : Prop := Claim7.holds Tryd.pinned (.plain (OpenSpec.ofChange extentLinesSpec)) extentLinesCard

/-- THE SECOND FORM's CARD OF 'quoinlaw14.ExtentLines'. -/
def extentLinesUptoCard : Claim7 := { stood := { row := extentLinesUptoRow, standIns := [], harness := (true, "3bb6ab3bd1535f23196e79092c5961278771c19acf704d269d824499abad5f18"), looks := false }, kinds := [], alts := [], laidByText := true, laidKinds := [.data, .pinned], laidTests := true, laidLooks := .later }
def ExtentLinesUptoCardSaid : Prop := Claim7.holds Tryd.pinned (.plain (OpenSpec.upto extentLinesSpec)) extentLinesUptoCard
end Rows
end Go.Proofs.YtlcdnpecoaamcaaDoor
