/-
  DERIVED. GIVEN WITH THE SEED: THE CARDS: each row of YtdhdngoeaneanaaDoorRows.lean that lists a variable, with what it lists TIED to the program's text (the seventh form; the later family's looks); each row that meets fmt, with fmt's text TOLD by the authors' own Lean function (tested against real Go, not proved from fmt's source: count such statements apart). THE CARD IS WHAT COUNTS. Prove the row's statement (the work); the ties are given (YtdhdngoeaneanaaDoorTie.lean); close each card by the builder's one call (the guide's Derived/Test/ToyasCard.lean, 'card_holds'). Laid BY PROGRAM, IN A SANDBOX (cutbox-door.mjs). By AI agents, Wed Nov 11 2026. No macro, syntax, notation, axiom, sorry.
-/
import Derived.Test.YtdhdngoeaneanaaDoorRows
import GoSem.ClaimSeven
namespace Go.Proofs.YtdhdngoeaneanaaDoor
namespace Rows

/-- THE TIED CARD OF 'quoinlaw23.AddressParses'. -/
def addressParsesCard : Claim7 := { stood := { row := addressParsesRow, standIns := [], harness := (true, "2346e2b300a166f523485ab3b7100ea41b652e7f6ec0c8b8148abf3a35f286bf"), looks := true }, kinds := [], alts := [], laidByText := true, laidKinds := [.data, .data, .data, .data, .pinned], laidTests := true, laidLooks := .later }
def AddressParsesCardSaid : Prop := Claim7.holds Tryd.pinned (.plain (OpenSpec.ofChange addressParsesSpec)) addressParsesCard

/-- THE TIED CARD OF 'quoinlaw23.AddressSpells'. -/
def addressSpellsCard : Claim7 := { stood := { row := addressSpellsRow, standIns := [], harness := (true, "2346e2b300a166f523485ab3b7100ea41b652e7f6ec0c8b8148abf3a35f286bf"), looks := true }, kinds := [], alts := [], laidByText := true, laidKinds := [.data, .data, .data, .data, .pinned], laidTests := true, laidLooks := .later }
def AddressSpellsCardSaid : Prop := Claim7.holds Tryd.pinned (.plain (OpenSpec.ofChange addressSpellsSpec)) addressSpellsCard

/-- THE TIED CARD OF 'quoinlaw23.AddressFinds'. -/
def addressFindsCard : Claim7 := { stood := { row := addressFindsRow, standIns := [], harness := (true, "2346e2b300a166f523485ab3b7100ea41b652e7f6ec0c8b8148abf3a35f286bf"), looks := true }, kinds := [], alts := [], laidByText := true, laidKinds := [.data, .data, .data, .data, .pinned], laidTests := true, laidLooks := .later }
def AddressFindsCardSaid : Prop := Claim7.holds Tryd.pinned (.plain (OpenSpec.ofChange addressFindsSpec)) addressFindsCard

/-- THE TIED CARD OF 'quoinlaw23.AddressBack'. -/
def addressBackCard : Claim7 := { stood := { row := addressBackRow, standIns := [], harness := (true, "2346e2b300a166f523485ab3b7100ea41b652e7f6ec0c8b8148abf3a35f286bf"), looks := true }, kinds := [], alts := [], laidByText := true, laidKinds := [.data, .data, .data, .data, .pinned], laidTests := true, laidLooks := .later }
def AddressBackCardSaid : Prop := Claim7.holds Tryd.pinned (.plain (OpenSpec.ofChange addressBackSpec)) addressBackCard

/-- THE TIED CARD OF 'quoinlaw23.AddressLongest'. -/
def addressLongestCard : Claim7 := { stood := { row := addressLongestRow, standIns := [], harness := (true, "2346e2b300a166f523485ab3b7100ea41b652e7f6ec0c8b8148abf3a35f286bf"), looks := true }, kinds := [], alts := [], laidByText := true, laidKinds := [.data, .data, .data, .data, .pinned], laidTests := true, laidLooks := .later }
def AddressLongestCardSaid : Prop := Claim7.holds Tryd.pinned (.plain (OpenSpec.ofChange addressLongestSpec)) addressLongestCard

/-- THE TIED CARD OF 'quoinlaw23.AddressAround'. -/
def addressAroundCard : Claim7 := { stood := { row := addressAroundRow, standIns := [], harness := (true, "2346e2b300a166f523485ab3b7100ea41b652e7f6ec0c8b8148abf3a35f286bf"), looks := true }, kinds := [], alts := [], laidByText := true, laidKinds := [.data, .data, .data, .data, .pinned], laidTests := true, laidLooks := .later }
def AddressAroundCardSaid : Prop := Claim7.holds Tryd.pinned (.plain (OpenSpec.ofChange addressAroundSpec)) addressAroundCard

/-- THE TIED CARD OF 'quoinlaw23.AddressSteps'. -/
def addressStepsCard : Claim7 := { stood := { row := addressStepsRow, standIns := [], harness := (true, "2346e2b300a166f523485ab3b7100ea41b652e7f6ec0c8b8148abf3a35f286bf"), looks := true }, kinds := [], alts := [], laidByText := true, laidKinds := [.data, .data, .data, .data, .pinned], laidTests := true, laidLooks := .later }
def AddressStepsCardSaid : Prop := Claim7.holds Tryd.pinned (.plain (OpenSpec.ofChange addressStepsSpec)) addressStepsCard

/-- THE SECOND FORM's CARD OF 'quoinlaw23.AddressParses'. -/
def addressParsesUptoCard : Claim7 := { stood := { row := addressParsesUptoRow, standIns := [], harness := (true, "2346e2b300a166f523485ab3b7100ea41b652e7f6ec0c8b8148abf3a35f286bf"), looks := true }, kinds := [], alts := [], laidByText := true, laidKinds := [.data, .data, .data, .data, .pinned], laidTests := true, laidLooks := .later }
def AddressParsesUptoCardSaid : Prop := Claim7.holds Tryd.pinned (.plain (OpenSpec.upto addressParsesSpec)) addressParsesUptoCard

/-- THE SECOND FORM's CARD OF 'quoinlaw23.AddressSpells'. -/
def addressSpellsUptoCard : Claim7 := { stood := { row := addressSpellsUptoRow, standIns := [], harness := (true, "2346e2b300a166f523485ab3b7100ea41b652e7f6ec0c8b8148abf3a35f286bf"), looks := true }, kinds := [], alts := [], laidByText := true, laidKinds := [.data, .data, .data, .data, .pinned], laidTests := true, laidLooks := .later }
def AddressSpellsUptoCardSaid : Prop := Claim7.holds Tryd.pinned (.plain (OpenSpec.upto addressSpellsSpec)) addressSpellsUptoCard

/-- THE SECOND FORM's CARD OF 'quoinlaw23.AddressFinds'. -/
def addressFindsUptoCard : Claim7 := { stood := { row := addressFindsUptoRow, standIns := [], harness := (true, "2346e2b300a166f523485ab3b7100ea41b652e7f6ec0c8b8148abf3a35f286bf"), looks := true }, kinds := [], alts := [], laidByText := true, laidKinds := [.data, .data, .data, .data, .pinned], laidTests := true, laidLooks := .later }
def AddressFindsUptoCardSaid : Prop := Claim7.holds Tryd.pinned (.plain (OpenSpec.upto addressFindsSpec)) addressFindsUptoCard

/-- THE SECOND FORM's CARD OF 'quoinlaw23.AddressBack'. -/
def addressBackUptoCard : Claim7 := { stood := { row := addressBackUptoRow, standIns := [], harness := (true, "2346e2b300a166f523485ab3b7100ea41b652e7f6ec0c8b8148abf3a35f286bf"), looks := true }, kinds := [], alts := [], laidByText := true, laidKinds := [.data, .data, .data, .data, .pinned], laidTests := true, laidLooks := .later }
def AddressBackUptoCardSaid : Prop := Claim7.holds Tryd.pinned (.plain (OpenSpec.upto addressBackSpec)) addressBackUptoCard

/-- THE SECOND FORM's CARD OF 'quoinlaw23.AddressLongest'. -/
def addressLongestUptoCard : Claim7 := { stood := { row := addressLongestUptoRow, standIns := [], harness := (true, "2346e2b300a166f523485ab3b7100ea41b652e7f6ec0c8b8148abf3a35f286bf"), looks := true }, kinds := [], alts := [], laidByText := true, laidKinds := [.data, .data, .data, .data, .pinned], laidTests := true, laidLooks := .later }
def AddressLongestUptoCardSaid : Prop := Claim7.holds Tryd.pinned (.plain (OpenSpec.upto addressLongestSpec)) addressLongestUptoCard

/-- THE SECOND FORM's CARD OF 'quoinlaw23.AddressAround'. -/
def addressAroundUptoCard : Claim7 := { stood := { row := addressAroundUptoRow, standIns := [], harness := (true, "2346e2b300a166f523485ab3b7100ea41b652e7f6ec0c8b8148abf3a35f286bf"), looks := true }, kinds := [], alts := [], laidByText := true, laidKinds := [.data, .data, .data, .data, .pinned], laidTests := true, laidLooks := .later }
def AddressAroundUptoCardSaid : Prop := Claim7.holds Tryd.pinned (.plain (OpenSpec.upto addressAroundSpec)) addressAroundUptoCard

/-- THE SECOND FORM's CARD OF 'quoinlaw23.AddressSteps'. -/
def addressStepsUptoCard : Claim7 := { stood := { row := addressStepsUptoRow, standIns := [], harness := (true, "2346e2b300a166f523485ab3b7100ea41b652e7f6ec0c8b8148abf3a35f286bf"), looks := true }, kinds := [], alts := [], laidByText := true, laidKinds := [.data, .data, .data, .data, .pinned], laidTests := true, laidLooks := .later }
def AddressStepsUptoCardSaid : Prop := Claim7.holds Tryd.pinned (.plain (OpenSpec.upto addressStepsSpec)) addressStepsUptoCard
end Rows
end Go.Proofs.YtdhdngoeaneanaaDoor
