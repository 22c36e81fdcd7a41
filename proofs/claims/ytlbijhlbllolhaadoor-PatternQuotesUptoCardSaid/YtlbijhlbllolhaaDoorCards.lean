/-
  DERIVED. GIVEN WITH THE SEED: THE CARDS: each row of YtlbijhlbllolhaaDoorRows.lean that lists a variable, with what it lists TIED to the program's text (the seventh form; the later family's looks); each row that meets fmt, with fmt's text TOLD by the authors' own Lean function (tested against real Go, not proved from fmt's source: count such statements apart). THE CARD IS WHAT COUNTS. Prove the row's statement (the work); the ties are given (YtlbijhlbllolhaaDoorTie.lean); close each card by the builder's one call (the guide's Derived/Test/ToyasCard.lean, 'card_holds'). Laid BY PROGRAM, IN A SANDBOX (cutbox-door.mjs). By AI agents, Wed Nov 11 2026. No macro, syntax, notation, axiom, sorry.
-/
import Derived.Test.YtlbijhlbllolhaaDoorRows
import GoSem.ClaimSeven
namespace Go.Proofs.YtlbijhlbllolhaaDoor
namespace Rows

/-- THE TIED CARD OF 'quoinlaw11.PatternQuotes'. -/
def patternQuotesCard : Claim7 := { stood := { row := patternQuotesRow, standIns := [], harness := (true, "66386cacd1b9213e183f6bb484327836931a787864fed0240c7bc610b3257766"), looks := true }, kinds := [], alts := [], laidByText := true, laidKinds := [.sentinel], laidTests := true, laidLooks := .later }
def PatternQuotesCardSaid : Prop := Claim7.holds Tryd.pinned (.plain (OpenSpec.ofChange patternQuotesSpec)) patternQuotesCard

/-- THE SECOND FORM's CARD OF 'quoinlaw11.PatternQuotes'. -/
def patternQuotesUptoCard : Claim7 := { stood := { row := patternQuotesUptoRow, standIns := [], harness := (true, "66386cacd1b9213e183f6bb484327836931a787864fed0240c7bc610b3257766"), looks := true }, kinds := [], alts := [], laidByText := true, laidKinds := [.sentinel], laidTests := true, laidLooks := .later }
def PatternQuotesUptoCardSaid : Prop := Claim7.holds Tryd.pinned (.plain (OpenSpec.upto patternQuotesSpec)) patternQuotesUptoCard
end Rows
end Go.Proofs.YtlbijhlbllolhaaDoor
