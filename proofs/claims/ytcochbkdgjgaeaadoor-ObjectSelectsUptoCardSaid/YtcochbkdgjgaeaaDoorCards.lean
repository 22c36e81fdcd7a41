/-
  DERIVED. GIVEN WITH THE SEED: THE CARDS: each row of YtcochbkdgjgaeaaDoorRows.lean that lists a variable, with what it lists TIED to the program's text (the seventh form; the later family's looks); each row that meets fmt, with fmt's text TOLD by the authors' own Lean function (tested against real Go, not proved from fmt's source: count such statements apart). THE CARD IS WHAT COUNTS. Prove the row's statement (the work); the ties are given (YtcochbkdgjgaeaaDoorTie.lean); close each card by the builder's one call (the guide's Derived/Test/ToyasCard.lean, 'card_holds'). Laid BY PROGRAM, IN A SANDBOX (cutbox-door.mjs). By AI agents, Wed Nov 11 2026. No macro, syntax, notation, axiom, sorry.
-/
import Derived.Test.YtcochbkdgjgaeaaDoorRows
import GoSem.ClaimSeven
namespace Go.Proofs.YtcochbkdgjgaeaaDoor
namespace Rows

/-- THE TIED CARD OF 'quoinlaw13.ObjectSelects'. -/
def objectSelectsCard : Claim7 := { stood := { row := objectSelectsRow, standIns := [], harness := (true, "91a213a4a3dcf6efe26d7c0eca219ece83acb6c5fdb293dde2a63e86015d047c"), looks := false }, kinds := [], alts := [], laidByText := true, laidKinds := [.data, .pinned], laidTests := true, laidLooks := .later }
def ObjectSelectsCardSaid : Prop := Claim7.holds Tryd.pinned (.plain (OpenSpec.ofChange objectSelectsSpec)) objectSelectsCard

/-- THE TIED CARD OF 'quoinlaw13.ObjectHolds'. -/
def objectHoldsCard : Claim7 := { stood := { row := objectHoldsRow, standIns := [], harness := (true, "91a213a4a3dcf6efe26d7c0eca219ece83acb6c5fdb293dde2a63e86015d047c"), looks := false }, kinds := [], alts := [], laidByText := true, laidKinds := [.data, .pinned], laidTests := true, laidLooks := .later }
def ObjectHoldsCardSaid : Prop := Claim7.holds Tryd.pinned (.plain (OpenSpec.ofChange objectHoldsSpec)) objectHoldsCard

/-- THE TIED CARD OF 'quoinlaw13.ObjectNests'. -/
def objectNestsCard : Claim7 := { stood := { row := objectNestsRow, standIns := [], harness := (true, "91a213a4a3dcf6efe26d7c0eca219ece83acb6c5fdb293dde2a63e86015d047c"), looks := false }, kinds := [], alts := [], laidByText := true, laidKinds := [.data, .pinned], laidTests := true, laidLooks := .later }
def ObjectNestsCardSaid : Prop := Claim7.holds Tryd.pinned (.plain (OpenSpec.ofChange objectNestsSpec)) objectNestsCard

/-- THE TIED CARD OF 'quoinlaw13.ObjectRuns'. -/
def objectRunsCard : Claim7 := { stood := { row := objectRunsRow, standIns := [], harness := (true, "91a213a4a3dcf6efe26d7c0eca219ece83acb6c5fdb293dde2a63e86015d047c"), looks := false }, kinds := [], alts := [], laidByText := true, laidKinds := [.data, .pinned], laidTests := true, laidLooks := .later }
def ObjectRunsCardSaid : Prop := Claim7.holds Tryd.pinned (.plain (OpenSpec.ofChange objectRunsSpec)) objectRunsCard

/-- THE SECOND FORM's CARD OF 'quoinlaw13.ObjectSelects'. -/
def objectSelectsUptoCard : Claim7 := { stood := { row := objectSelectsUptoRow, standIns := [], harness := (true, "91a213a4a3dcf6efe26d7c0eca219ece83acb6c5fdb293dde2a63e86015d047c"), looks := false }, kinds := [], alts := [], laidByText := true, laidKinds := [.data, .pinned], laidTests := true, laidLooks := .later }
def ObjectSelectsUptoCardSaid : Prop := Claim7.holds Tryd.pinned (.plain (OpenSpec.upto objectSelectsSpec)) objectSelectsUptoCard

/-- THE SECOND FORM's CARD OF 'quoinlaw13.ObjectHolds'. -/
def objectHoldsUptoCard : Claim7 := { stood := { row := objectHoldsUptoRow, standIns := [], harness := (true, "91a213a4a3dcf6efe26d7c0eca219ece83acb6c5fdb293dde2a63e86015d047c"), looks := false }, kinds := [], alts := [], laidByText := true, laidKinds := [.data, .pinned], laidTests := true, laidLooks := .later }
def ObjectHoldsUptoCardSaid : Prop := Claim7.holds Tryd.pinned (.plain (OpenSpec.upto objectHoldsSpec)) objectHoldsUptoCard

/-- THE SECOND FORM's CARD OF 'quoinlaw13.ObjectNests'. -/
def objectNestsUptoCard : Claim7 := { stood := { row := objectNestsUptoRow, standIns := [], harness := (true, "91a213a4a3dcf6efe26d7c0eca219ece83acb6c5fdb293dde2a63e86015d047c"), looks := false }, kinds := [], alts := [], laidByText := true, laidKinds := [.data, .pinned], laidTests := true, laidLooks := .later }
def ObjectNestsUptoCardSaid : Prop := Claim7.holds Tryd.pinned (.plain (OpenSpec.upto objectNestsSpec)) objectNestsUptoCard

/-- THE SECOND FORM's CARD OF 'quoinlaw13.ObjectRuns'. -/
def objectRunsUptoCard : Claim7 := { stood := { row := objectRunsUptoRow, standIns := [], harness := (true, "91a213a4a3dcf6efe26d7c0eca219ece83acb6c5fdb293dde2a63e86015d047c"), looks := false }, kinds := [], alts := [], laidByText := true, laidKinds := [.data, .pinned], laidTests := true, laidLooks := .later }
def ObjectRunsUptoCardSaid : Prop := Claim7.holds Tryd.pinned (.plain (OpenSpec.upto objectRunsSpec)) objectRunsUptoCard
end Rows
end Go.Proofs.YtcochbkdgjgaeaaDoor
