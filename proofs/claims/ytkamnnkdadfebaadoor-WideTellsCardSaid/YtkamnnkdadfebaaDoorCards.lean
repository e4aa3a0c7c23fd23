/-
  DERIVED. GIVEN WITH THE SEED: THE CARDS: each row of YtkamnnkdadfebaaDoorRows.lean that lists a variable, with what it lists TIED to the program's text (the seventh form; the later family's looks); each row that meets fmt, with fmt's text TOLD by the authors' own Lean function (tested against real Go, not proved from fmt's source: count such statements apart). THE CARD IS WHAT COUNTS. Prove the row's statement (the work); the ties are given (YtkamnnkdadfebaaDoorTie.lean); close each card by the builder's one call (the guide's Derived/Test/ToyasCard.lean, 'card_holds'). Laid BY PROGRAM, IN A SANDBOX (cutbox-door.mjs). By AI agents, Wed Nov 11 2026. No macro, syntax, notation, axiom, sorry.
-/
import Derived.Test.YtkamnnkdadfebaaDoorRows
import GoSem.ClaimSeven
namespace Go.Proofs.YtkamnnkdadfebaaDoor
namespace Rows

/-- THE TIED CARD OF 'hectarelaw1.WideBack'. -/
def wideBackCard : Claim7 := { stood := { row := wideBackRow, standIns := [], harness := (true, "8274e640463a49ca6e63628a0cb275b9d54fc0776997e8d0c43d94d91cfbeeb5"), looks := false }, kinds := [], alts := [], laidByText := true, laidKinds := [.data, .data, .data, .data, .pinned], laidTests := true, laidLooks := .later }
def WideBackCardSaid : Prop := Claim7.holds Tryd.pinned (.plain (OpenSpec.ofChange wideBackSpec)) wideBackCard

/-- THE TIED CARD OF 'hectarelaw1.WideParts'. -/
def widePartsCard : Claim7 := { stood := { row := widePartsRow, standIns := [], harness := (true, "8274e640463a49ca6e63628a0cb275b9d54fc0776997e8d0c43d94d91cfbeeb5"), looks := false }, kinds := [], alts := [], laidByText := true, laidKinds := [.data, .data, .data, .data, .pinned], laidTests := true, laidLooks := .later }
def WidePartsCardSaid : Prop := Claim7.holds Tryd.pinned (.plain (OpenSpec.ofChange widePartsSpec)) widePartsCard

/-- THE TIED CARD OF 'hectarelaw1.WideFits'. -/
def wideFitsCard : Claim7 := { stood := { row := wideFitsRow, standIns := [], harness := (true, "8274e640463a49ca6e63628a0cb275b9d54fc0776997e8d0c43d94d91cfbeeb5"), looks := false }, kinds := [], alts := [], laidByText := true, laidKinds := [.data, .data, .data, .data, .pinned], laidTests := true, laidLooks := .later }
def WideFitsCardSaid : Prop := Claim7.holds Tryd.pinned (.plain (OpenSpec.ofChange wideFitsSpec)) wideFitsCard

/-- THE TIED CARD OF 'hectarelaw1.WideTells'. -/
def wideTellsCard : Claim7 := { stood := { row := wideTellsRow, standIns := [], harness := (true, "8274e640463a49ca6e63628a0cb275b9d54fc0776997e8d0c43d94d91cfbeeb5"), looks := false }, kinds := [], alts := [], laidByText := true, laidKinds := [.data, .data, .data, .data, .pinned], laidTests := true, laidLooks := .later }
def WideTellsCardSaid : Prop := Claim7.holds Tryd.pinned (.plain (OpenSpec.ofChange wideTellsSpec)) wideTellsCard

/-- THE TIED CARD OF 'hectarelaw1.WideMuls'. -/
def wideMulsCard : Claim7 := { stood := { row := wideMulsRow, standIns := [], harness := (true, "8274e640463a49ca6e63628a0cb275b9d54fc0776997e8d0c43d94d91cfbeeb5"), looks := false }, kinds := [], alts := [], laidByText := true, laidKinds := [.data, .data, .data, .data, .pinned], laidTests := true, laidLooks := .later }
def WideMulsCardSaid : Prop := Claim7.holds Tryd.pinned (.plain (OpenSpec.ofChange wideMulsSpec)) wideMulsCard

/-- THE TIED CARD OF 'hectarelaw1.WideOrder'. -/
def wideOrderCard : Claim7 := { stood := { row := wideOrderRow, standIns := [], harness := (true, "8274e640463a49ca6e63628a0cb275b9d54fc0776997e8d0c43d94d91cfbeeb5"), looks := false }, kinds := [], alts := [], laidByText := true, laidKinds := [.data, .data, .data, .data, .pinned], laidTests := true, laidLooks := .later }
def WideOrderCardSaid : Prop := Claim7.holds Tryd.pinned (.plain (OpenSpec.ofChange wideOrderSpec)) wideOrderCard

/-- THE SECOND FORM's CARD OF 'hectarelaw1.WideBack'. -/
def wideBackUptoCard : Claim7 := { stood := { row := wideBackUptoRow, standIns := [], harness := (true, "8274e640463a49ca6e63628a0cb275b9d54fc0776997e8d0c43d94d91cfbeeb5"), looks := false }, kinds := [], alts := [], laidByText := true, laidKinds := [.data, .data, .data, .data, .pinned], laidTests := true, laidLooks := .later }
def WideBackUptoCardSaid : Prop := Claim7.holds Tryd.pinned (.plain (OpenSpec.upto wideBackSpec)) wideBackUptoCard

/-- THE SECOND FORM's CARD OF 'hectarelaw1.WideParts'. -/
def widePartsUptoCard : Claim7 := { stood := { row := widePartsUptoRow, standIns := [], harness := (true, "8274e640463a49ca6e63628a0cb275b9d54fc0776997e8d0c43d94d91cfbeeb5"), looks := false }, kinds := [], alts := [], laidByText := true, laidKinds := [.data, .data, .data, .data, .pinned], laidTests := true, laidLooks := .later }
def WidePartsUptoCardSaid : Prop := Claim7.holds Tryd.pinned (.plain (OpenSpec.upto widePartsSpec)) widePartsUptoCard

/-- THE SECOND FORM's CARD OF 'hectarelaw1.WideFits'. -/
def wideFitsUptoCard : Claim7 := { stood := { row := wideFitsUptoRow, standIns := [], harness := (true, "8274e640463a49ca6e63628a0cb275b9d54fc0776997e8d0c43d94d91cfbeeb5"), looks := false }, kinds := [], alts := [], laidByText := true, laidKinds := [.data, .data, .data, .data, .pinned], laidTests := true, laidLooks := .later }
def WideFitsUptoCardSaid : Prop := Claim7.holds Tryd.pinned (.plain (OpenSpec.upto wideFitsSpec)) wideFitsUptoCard

/-- THE SECOND FORM's CARD OF 'hectarelaw1.WideTells'. -/
def wideTellsUptoCard : Claim7 := { stood := { row := wideTellsUptoRow, standIns := [], harness := (true, "8274e640463a49ca6e63628a0cb275b9d54fc0776997e8d0c43d94d91cfbeeb5"), looks := false }, kinds := [], alts := [], laidByText := true, laidKinds := [.data, .data, .data, .data, .pinned], laidTests := true, laidLooks := .later }
def WideTellsUptoCardSaid : Prop := Claim7.holds Tryd.pinned (.plain (OpenSpec.upto wideTellsSpec)) wideTellsUptoCard

/-- THE SECOND FORM's CARD OF 'hectarelaw1.WideMuls'. -/
def wideMulsUptoCard : Claim7 := { stood := { row := wideMulsUptoRow, standIns := [], harness := (true, "8274e640463a49ca6e63628a0cb275b9d54fc0776997e8d0c43d94d91cfbeeb5"), looks := false }, kinds := [], alts := [], laidByText := true, laidKinds := [.data, .data, .data, .data, .pinned], laidTests := true, laidLooks := .later }
def WideMulsUptoCardSaid : Prop := Claim7.holds Tryd.pinned (.plain (OpenSpec.upto wideMulsSpec)) wideMulsUptoCard

/-- THE SECOND FORM's CARD OF 'hectarelaw1.WideOrder'. -/
def wideOrderUptoCard : Claim7 := { stood := { row := wideOrderUptoRow, standIns := [], harness := (true, "8274e640463a49ca6e63628a0cb275b9d54fc0776997e8d0c43d94d91cfbeeb5"), looks := false }, kinds := [], alts := [], laidByText := true, laidKinds := [.data, .data, .data, .data, .pinned], laidTests := true, laidLooks := .later }
def WideOrderUptoCardSaid : Prop := Claim7.holds Tryd.pinned (.plain (OpenSpec.upto wideOrderSpec)) wideOrderUptoCard
end Rows
end Go.Proofs.YtkamnnkdadfebaaDoor
