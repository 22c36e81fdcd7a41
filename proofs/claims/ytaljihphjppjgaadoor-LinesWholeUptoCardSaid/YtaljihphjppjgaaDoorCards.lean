/-
  DERIVED. GIVEN WITH THE SEED: THE CARDS: each row of YtaljihphjppjgaaDoorRows.lean that lists a variable, with what it lists TIED to the program's text (the seventh form; the later family's looks); each row that meets fmt, with fmt's text TOLD by the authors' own Lean function (tested against real Go, not proved from fmt's source: count such statements apart). THE CARD IS WHAT COUNTS. Prove the row's statement (the work); the ties are given (YtaljihphjppjgaaDoorTie.lean); close each card by the builder's one call (the guide's Derived/Test/ToyasCard.lean, 'card_holds'). Laid BY PROGRAM, IN A SANDBOX (cutbox-door.mjs). By AI agents, Wed Nov 11 2026. No macro, syntax, notation, axiom, sorry.
-/
import Derived.Test.YtaljihphjppjgaaDoorRows
import GoSem.ClaimSeven
namespace Go.Proofs.YtaljihphjppjgaaDoor
namespace Rows

/-- THE TIED CARD OF 'quoinlaw05.LinesSplit'. -/
def linesSplitCard : Claim7 := { stood := { row := linesSplitRow, standIns := [], harness := (true, "a27792dfed9b68232e2199918110a2339779315b3f4227bda3fae67497eb2b9b"), looks := false }, kinds := [], alts := [], laidByText := true, laidKinds := [.data, .pinned], laidTests := true, laidLooks := .later }
def LinesSplitCardSaid : Prop := Claim7.holds Tryd.pinned (.plain (OpenSpec.ofChange linesSplitSpec)) linesSplitCard

/-- THE TIED CARD OF 'quoinlaw05.LinesWhole'. -/
def linesWholeCard : Claim7 := { stood := { row := linesWholeRow, standIns := [], harness := (true, "a27792dfed9b68232e2199918110a2339779315b3f4227bda3fae67497eb2b9b"), looks := false }, kinds := [], alts := [], laidByText := true, laidKinds := [.data, .pinned], laidTests := true, laidLooks := .later }
def LinesWholeCardSaid : Prop := Claim7.holds Tryd.pinned (.plain (OpenSpec.ofChange linesWholeSpec)) linesWholeCard

/-- THE TIED CARD OF 'quoinlaw05.LinesRest'. -/
def linesRestCard : Claim7 := { stood := { row := linesRestRow, standIns := [], harness := (true, "a27792dfed9b68232e2199918110a2339779315b3f4227bda3fae67497eb2b9b"), looks := false }, kinds := [], alts := [], laidByText := true, laidKinds := [.data, .pinned], laidTests := true, laidLooks := .later }
def LinesRestCardSaid : Prop := Claim7.holds Tryd.pinned (.plain (OpenSpec.ofChange linesRestSpec)) linesRestCard

/-- THE TIED CARD OF 'quoinlaw05.LinesNumbers'. -/
def linesNumbersCard : Claim7 := { stood := { row := linesNumbersRow, standIns := [], harness := (true, "a27792dfed9b68232e2199918110a2339779315b3f4227bda3fae67497eb2b9b"), looks := false }, kinds := [], alts := [], laidByText := true, laidKinds := [.data, .pinned], laidTests := true, laidLooks := .later }
def LinesNumbersCardSaid : Prop := Claim7.holds Tryd.pinned (.plain (OpenSpec.ofChange linesNumbersSpec)) linesNumbersCard

/-- THE TIED CARD OF 'quoinlaw05.LinesBack'. -/
def linesBackCard : Claim7 := { stood := { row := linesBackRow, standIns := [], harness := (true, "a27792dfed9b68232e2199918110a2339779315b3f4227bda3fae67497eb2b9b"), looks := false }, kinds := [], alts := [], laidByText := true, laidKinds := [.data, .pinned], laidTests := true, laidLooks := .later }
def LinesBackCardSaid : Prop := Claim7.holds Tryd.pinned (.plain (OpenSpec.ofChange linesBackSpec)) linesBackCard

/-- THE SECOND FORM's CARD OF 'quoinlaw05.LinesSplit'. -/
def linesSplitUptoCard : Claim7 := { stood := { row := linesSplitUptoRow, standIns := [], harness := (true, "a27792dfed9b68232e2199918110a2339779315b3f4227bda3fae67497eb2b9b"), looks := false }, kinds := [], alts := [], laidByText := true, laidKinds := [.data, .pinned], laidTests := true, laidLooks := .later }
def LinesSplitUptoCardSaid : Prop := Claim7.holds Tryd.pinned (.plain (OpenSpec.upto linesSplitSpec)) linesSplitUptoCard

/-- THE SECOND FORM's CARD OF 'quoinlaw05.LinesWhole'. -/
def linesWholeUptoCard : Claim7 := { stood := { row := linesWholeUptoRow, standIns := [], harness := (true, "a27792dfed9b68232e2199918110a2339779315b3f4227bda3fae67497eb2b9b"), looks := false }, kinds := [], alts := [], laidByText := true, laidKinds := [.data, .pinned], laidTests := true, laidLooks := .later }
def LinesWholeUptoCardSaid : Prop := Claim7.holds Tryd.pinned (.plain (OpenSpec.upto linesWholeSpec)) linesWholeUptoCard

/-- THE SECOND FORM's CARD OF 'quoinlaw05.LinesRest'. -/
def linesRestUptoCard : Claim7 := { stood := { row := linesRestUptoRow, standIns := [], harness := (true, "a27792dfed9b68232e2199918110a2339779315b3f4227bda3fae67497eb2b9b"), looks := false }, kinds := [], alts := [], laidByText := true, laidKinds := [.data, .pinned], laidTests := true, laidLooks := .later }
def LinesRestUptoCardSaid : Prop := Claim7.holds Tryd.pinned (.plain (OpenSpec.upto linesRestSpec)) linesRestUptoCard

/-- THE SECOND FORM's CARD OF 'quoinlaw05.LinesNumbers'. -/
def linesNumbersUptoCard : Claim7 := { stood := { row := linesNumbersUptoRow, standIns := [], harness := (true, "a27792dfed9b68232e2199918110a2339779315b3f4227bda3fae67497eb2b9b"), looks := false }, kinds := [], alts := [], laidByText := true, laidKinds := [.data, .pinned], laidTests := true, laidLooks := .later }
def LinesNumbersUptoCardSaid : Prop := Claim7.holds Tryd.pinned (.plain (OpenSpec.upto linesNumbersSpec)) linesNumbersUptoCard

/-- THE SECOND FORM's CARD OF 'quoinlaw05.LinesBack'. -/
def linesBackUptoCard : Claim7 := { stood := { row := linesBackUptoRow, standIns := [], harness := (true, "a27792dfed9b68232e2199918110a2339779315b3f4227bda3fae67497eb2b9b"), looks := false }, kinds := [], alts := [], laidByText := true, laidKinds := [.data, .pinned], laidTests := true, laidLooks := .later }
def LinesBackUptoCardSaid : Prop := Claim7.holds Tryd.pinned (.plain (OpenSpec.upto linesBackSpec)) linesBackUptoCard
end Rows
end Go.Proofs.YtaljihphjppjgaaDoor
