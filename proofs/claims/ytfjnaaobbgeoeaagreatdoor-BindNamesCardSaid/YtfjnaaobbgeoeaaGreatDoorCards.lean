/-
  DERIVED. GIVEN WITH THE SEED: THE CARDS: each row of YtfjnaaobbgeoeaaGreatDoorRows.lean that lists a variable, with what it lists TIED to the program's text (the seventh form; the later family's looks); each row that meets fmt, with fmt's text TOLD by the authors' own Lean function (tested against real Go, not proved from fmt's source: count such statements apart). THE CARD IS WHAT COUNTS. Prove the row's statement (the work); the ties are given (YtfjnaaobbgeoeaaGreatDoorTie.lean); close each card by the builder's one call (the guide's Derived/Test/ToyasCard.lean, 'card_holds'). Laid BY PROGRAM, IN A SANDBOX (cutbox-door.mjs). By AI agents, Wed Nov 11 2026. No macro, syntax, notation, axiom, sorry.
-/
import Derived.Test.YtfjnaaobbgeoeaaGreatDoorRows
import GoSem.ClaimSeven
namespace Go.Proofs.YtfjnaaobbgeoeaaGreatDoor
namespace Rows

/-- THE TIED CARD OF 'umlautlaw20.BindRanks'. -/
def bindRanksCard : Claim7 := { stood := { row := bindRanksRow, standIns := [], harness := (true, "b6e0d0f2e046b17e5b3ec963a46727895f0ba2e50d0405ac4c6e3325532d5d7e"), looks := false }, kinds := [], alts := [], laidByText := true, laidKinds := [.data, .pinned], laidTests := true, laidLooks := .later }
def BindRanksCardSaid : Prop := Claim7.holds Tryz.pinned (.plain (OpenSpec.ofChange bindRanksSpec)) bindRanksCard

/-- THE TIED CARD OF 'umlautlaw20.BindCombines'. -/
def bindCombinesCard : Claim7 := { stood := { row := bindCombinesRow, standIns := [], harness := (true, "b6e0d0f2e046b17e5b3ec963a46727895f0ba2e50d0405ac4c6e3325532d5d7e"), looks := false }, kinds := [], alts := [], laidByText := true, laidKinds := [.data, .pinned], laidTests := true, laidLooks := .later }
def BindCombinesCardSaid : Prop := Claim7.holds Tryz.pinned (.plain (OpenSpec.ofChange bindCombinesSpec)) bindCombinesCard

/-- THE TIED CARD OF 'umlautlaw20.BindNames'. -/
def bindNamesCard : Claim7 := { stood := { row := bindNamesRow, standIns := [], harness := (true, "b6e0d0f2e046b17e5b3ec963a46727895f0ba2e50d0405ac4c6e3325532d5d7e"), looks := false }, kinds := [], alts := [], laidByText := true, laidKinds := [.data, .pinned], laidTests := true, laidLooks := .later }
def BindNamesCardSaid : Prop := Claim7.holds Tryz.pinned (.plain (OpenSpec.ofChange bindNamesSpec)) bindNamesCard

/-- THE SECOND FORM's CARD OF 'umlautlaw20.BindRanks'. -/
def bindRanksUptoCard : Claim7 := { stood := { row := bindRanksUptoRow, standIns := [], harness := (true, "b6e0d0f2e046b17e5b3ec963a46727895f0ba2e50d0405ac4c6e3325532d5d7e"), looks := false }, kinds := [], alts := [], laidByText := true, laidKinds := [.data, .pinned], laidTests := true, laidLooks := .later }
def BindRanksUptoCardSaid : Prop := Claim7.holds Tryz.pinned (.plain (OpenSpec.upto bindRanksSpec)) bindRanksUptoCard

/-- THE SECOND FORM's CARD OF 'umlautlaw20.BindCombines'. -/
def bindCombinesUptoCard : Claim7 := { stood := { row := bindCombinesUptoRow, standIns := [], harness := (true, "b6e0d0f2e046b17e5b3ec963a46727895f0ba2e50d0405ac4c6e3325532d5d7e"), looks := false }, kinds := [], alts := [], laidByText := true, laidKinds := [.data, .pinned], laidTests := true, laidLooks := .later }
def BindCombinesUptoCardSaid : Prop := Claim7.holds Tryz.pinned (.plain (OpenSpec.upto bindCombinesSpec)) bindCombinesUptoCard

/-- THE SECOND FORM's CARD OF 'umlautlaw20.BindNames'. -/
def bindNamesUptoCard : Claim7 := { stood := { row := bindNamesUptoRow, standIns := [], harness := (true, "b6e0d0f2e046b17e5b3ec963a46727895f0ba2e50d0405ac4c6e3325532d5d7e"), looks := false }, kinds := [], alts := [], laidByText := true, laidKinds := [.data, .pinned], laidTests := true, laidLooks := .later }
def BindNamesUptoCardSaid : Prop := Claim7.holds Tryz.pinned (.plain (OpenSpec.upto bindNamesSpec)) bindNamesUptoCard
end Rows
end Go.Proofs.YtfjnaaobbgeoeaaGreatDoor
