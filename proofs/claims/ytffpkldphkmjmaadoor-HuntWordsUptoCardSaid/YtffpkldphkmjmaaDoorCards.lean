/-
  DERIVED. GIVEN WITH THE SEED: THE CARDS: each row of YtffpkldphkmjmaaDoorRows.lean that lists a variable, with what it lists TIED to the program's text (the seventh form; the later family's looks); each row that meets fmt, with fmt's text TOLD by the authors' own Lean function (tested against real Go, not proved from fmt's source: count such statements apart). THE CARD IS WHAT COUNTS. Prove the row's statement (the work); the ties are given (YtffpkldphkmjmaaDoorTie.lean); close each card by the builder's one call (the guide's Derived/Test/ToyasCard.lean, 'card_holds'). Laid BY PROGRAM, IN A SANDBOX (cutbox-door.mjs). By AI agents, Wed Nov 11 2026. No macro, syntax, notation, axiom, sorry.
-/
import Derived.Test.YtffpkldphkmjmaaDoorRows
import GoSem.ClaimSeven
namespace Go.Proofs.YtffpkldphkmjmaaDoor
namespace Rows

/-- THE TIED CARD OF 'quoinlaw12.HuntNexts'. -/
def huntNextsCard : Claim7 := { stood := { row := huntNextsRow, standIns := [], harness := (true, "11d19670e16a1af46deebeed3bd8c45f9947c93ef2327fbaa3cd6b3620fc0576"), looks := true }, kinds := [], alts := [], laidByText := true, laidKinds := [.data, .sentinel, .pinned], laidTests := true, laidLooks := .later }
def HuntNextsCardSaid : Prop := Claim7.holds Tryd.pinned (.plain (OpenSpec.ofChange huntNextsSpec)) huntNextsCard

/-- THE TIED CARD OF 'quoinlaw12.HuntUnders'. -/
def huntUndersCard : Claim7 := { stood := { row := huntUndersRow, standIns := [], harness := (true, "11d19670e16a1af46deebeed3bd8c45f9947c93ef2327fbaa3cd6b3620fc0576"), looks := true }, kinds := [], alts := [], laidByText := true, laidKinds := [.data, .sentinel, .pinned], laidTests := true, laidLooks := .later }
def HuntUndersCardSaid : Prop := Claim7.holds Tryd.pinned (.plain (OpenSpec.ofChange huntUndersSpec)) huntUndersCard

/-- THE TIED CARD OF 'quoinlaw12.HuntRounds'. -/
def huntRoundsCard : Claim7 := { stood := { row := huntRoundsRow, standIns := [], harness := (true, "11d19670e16a1af46deebeed3bd8c45f9947c93ef2327fbaa3cd6b3620fc0576"), looks := true }, kinds := [], alts := [], laidByText := true, laidKinds := [.data, .sentinel, .pinned], laidTests := true, laidLooks := .later }
def HuntRoundsCardSaid : Prop := Claim7.holds Tryd.pinned (.plain (OpenSpec.ofChange huntRoundsSpec)) huntRoundsCard

/-- THE TIED CARD OF 'quoinlaw12.HuntKeeps'. -/
def huntKeepsCard : Claim7 := { stood := { row := huntKeepsRow, standIns := [], harness := (true, "11d19670e16a1af46deebeed3bd8c45f9947c93ef2327fbaa3cd6b3620fc0576"), looks := true }, kinds := [], alts := [], laidByText := true, laidKinds := [.data, .sentinel, .pinned], laidTests := true, laidLooks := .later }
def HuntKeepsCardSaid : Prop := Claim7.holds Tryd.pinned (.plain (OpenSpec.ofChange huntKeepsSpec)) huntKeepsCard

/-- THE TIED CARD OF 'quoinlaw12.HuntWords'. -/
def huntWordsCard : Claim7 := { stood := { row := huntWordsRow, standIns := [], harness := (true, "11d19670e16a1af46deebeed3bd8c45f9947c93ef2327fbaa3cd6b3620fc0576"), looks := true }, kinds := [], alts := [], laidByText := true, laidKinds := [.data, .sentinel, .pinned], laidTests := true, laidLooks := .later }
def HuntWordsCardSaid : Prop := Claim7.holds Tryd.pinned (.plain (OpenSpec.ofChange huntWordsSpec)) huntWordsCard

/-- THE TIED CARD OF 'quoinlaw12.HuntRests'. -/
def huntRestsCard : Claim7 := { stood := { row := huntRestsRow, standIns := [], harness := (true, "11d19670e16a1af46deebeed3bd8c45f9947c93ef2327fbaa3cd6b3620fc0576"), looks := true }, kinds := [], alts := [], laidByText := true, laidKinds := [.data, .sentinel, .pinned], laidTests := true, laidLooks := .later }
def HuntRestsCardSaid : Prop := Claim7.holds Tryd.pinned (.plain (OpenSpec.ofChange huntRestsSpec)) huntRestsCard

/-- THE SECOND FORM's CARD OF 'quoinlaw12.HuntNexts'. -/
def huntNextsUptoCard : Claim7 := { stood := { row := huntNextsUptoRow, standIns := [], harness := (true, "11d19670e16a1af46deebeed3bd8c45f9947c93ef2327fbaa3cd6b3620fc0576"), looks := true }, kinds := [], alts := [], laidByText := true, laidKinds := [.data, .sentinel, .pinned], laidTests := true, laidLooks := .later }
def HuntNextsUptoCardSaid : Prop := Claim7.holds Tryd.pinned (.plain (OpenSpec.upto huntNextsSpec)) huntNextsUptoCard

/-- THE SECOND FORM's CARD OF 'quoinlaw12.HuntUnders'. -/
def huntUndersUptoCard : Claim7 := { stood := { row := huntUndersUptoRow, standIns := [], harness := (true, "11d19670e16a1af46deebeed3bd8c45f9947c93ef2327fbaa3cd6b3620fc0576"), looks := true }, kinds := [], alts := [], laidByText := true, laidKinds := [.data, .sentinel, .pinned], laidTests := true, laidLooks := .later }
def HuntUndersUptoCardSaid : Prop := Claim7.holds Tryd.pinned (.plain (OpenSpec.upto huntUndersSpec)) huntUndersUptoCard

/-- THE SECOND FORM's CARD OF 'quoinlaw12.HuntRounds'. -/
def huntRoundsUptoCard : Claim7 := { stood := { row := huntRoundsUptoRow, standIns := [], harness := (true, "11d19670e16a1af46deebeed3bd8c45f9947c93ef2327fbaa3cd6b3620fc0576"), looks := true }, kinds := [], alts := [], laidByText := true, laidKinds := [.data, .sentinel, .pinned], laidTests := true, laidLooks := .later }
def HuntRoundsUptoCardSaid : Prop := Claim7.holds Tryd.pinned (.plain (OpenSpec.upto huntRoundsSpec)) huntRoundsUptoCard

/-- THE SECOND FORM's CARD OF 'quoinlaw12.HuntKeeps'. -/
def huntKeepsUptoCard : Claim7 := { stood := { row := huntKeepsUptoRow, standIns := [], harness := (true, "11d19670e16a1af46deebeed3bd8c45f9947c93ef2327fbaa3cd6b3620fc0576"), looks := true }, kinds := [], alts := [], laidByText := true, laidKinds := [.data, .sentinel, .pinned], laidTests := true, laidLooks := .later }
def HuntKeepsUptoCardSaid : Prop := Claim7.holds Tryd.pinned (.plain (OpenSpec.upto huntKeepsSpec)) huntKeepsUptoCard

/-- THE SECOND FORM's CARD OF 'quoinlaw12.HuntWords'. -/
def huntWordsUptoCard : Claim7 := { stood := { row := huntWordsUptoRow, standIns := [], harness := (true, "11d19670e16a1af46deebeed3bd8c45f9947c93ef2327fbaa3cd6b3620fc0576"), looks := true }, kinds := [], alts := [], laidByText := true, laidKinds := [.data, .sentinel, .pinned], laidTests := true, laidLooks := .later }
def HuntWordsUptoCardSaid : Prop := Claim7.holds Tryd.pinned (.plain (OpenSpec.upto huntWordsSpec)) huntWordsUptoCard

/-- THE SECOND FORM's CARD OF 'quoinlaw12.HuntRests'. -/
def huntRestsUptoCard : Claim7 := { stood := { row := huntRestsUptoRow, standIns := [], harness := (true, "11d19670e16a1af46deebeed3bd8c45f9947c93ef2327fbaa3cd6b3620fc0576"), looks := true }, kinds := [], alts := [], laidByText := true, laidKinds := [.data, .sentinel, .pinned], laidTests := true, laidLooks := .later }
def HuntRestsUptoCardSaid : Prop := Claim7.holds Tryd.pinned (.plain (OpenSpec.upto huntRestsSpec)) huntRestsUptoCard
end Rows
end Go.Proofs.YtffpkldphkmjmaaDoor
