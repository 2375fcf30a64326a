/-
  DERIVED. GIVEN WITH THE SEED: THE CARDS: each row of YtefdfgmlmjnmlaaDoorRows.lean that lists a variable, with what it lists TIED to the program's text (the seventh form; the later family's looks); each row that meets fmt, with fmt's text TOLD by the authors' own Lean function (tested against real Go, not proved from fmt's source: count such statements apart). THE CARD IS WHAT COUNTS. Prove the row's statement (the work); the ties are given (YtefdfgmlmjnmlaaDoorTie.lean); close each card by the builder's one call (the guide's Derived/Test/ToyasCard.lean, 'card_holds'). Laid BY PROGRAM, IN A SANDBOX (cutbox-door.mjs). By AI agents, Wed Nov 11 2026. No macro, syntax, notation, axiom, sorry.
-/
import Derived.Test.YtefdfgmlmjnmlaaDoorRows
import GoSem.ClaimSeven
namespace Go.Proofs.YtefdfgmlmjnmlaaDoor
namespace Rows

/-- THE TIED CARD OF 'mortmainlaw10.GrantMay'. -/
def grantMayCard : Claim7 := { stood := { row := grantMayRow, standIns := [], harness := (true, "ad361f8c9010d8bc8c83665426ff667c1a83a32d80b366ff0bd14d2eb2135fde"), looks := true }, kinds := [], alts := [], laidByText := true, laidKinds := [.data, .pinned], laidTests := true, laidLooks := .later }
def GrantMayCardSaid : Prop := Claim7.holds Tryd.pinned (.plain (OpenSpec.ofChange grantMaySpec)) grantMayCard

/-- THE TIED CARD OF 'mortmainlaw10.GrantTakes'. -/
def grantTakesCard : Claim7 := { stood := { row := grantTakesRow, standIns := [], harness := (true, "ad361f8c9010d8bc8c83665426ff667c1a83a32d80b366ff0bd14d2eb2135fde"), looks := true }, kinds := [], alts := [], laidByText := true, laidKinds := [.data, .pinned], laidTests := true, laidLooks := .later }
def GrantTakesCardSaid : Prop := Claim7.holds Tryd.pinned (.plain (OpenSpec.ofChange grantTakesSpec)) grantTakesCard

/-- THE TIED CARD OF 'mortmainlaw09.SchemaTables'. -/
def schemaTablesCard : Claim7 := { stood := { row := schemaTablesRow, standIns := [], harness := (true, "ad361f8c9010d8bc8c83665426ff667c1a83a32d80b366ff0bd14d2eb2135fde"), looks := true }, kinds := [], alts := [], laidByText := true, laidKinds := [.data, .pinned], laidTests := true, laidLooks := .later }
def SchemaTablesCardSaid : Prop := Claim7.holds Tryd.pinned (.plain (OpenSpec.ofChange schemaTablesSpec)) schemaTablesCard

/-- THE TIED CARD OF 'mortmainlaw09.SchemaLinks'. -/
def schemaLinksCard : Claim7 := { stood := { row := schemaLinksRow, standIns := [], harness := (true, "ad361f8c9010d8bc8c83665426ff667c1a83a32d80b366ff0bd14d2eb2135fde"), looks := true }, kinds := [], alts := [], laidByText := true, laidKinds := [.data, .pinned], laidTests := true, laidLooks := .later }
def SchemaLinksCardSaid : Prop := Claim7.holds Tryd.pinned (.plain (OpenSpec.ofChange schemaLinksSpec)) schemaLinksCard

/-- THE TIED CARD OF 'mortmainlaw10.GrantOrder'. -/
def grantOrderCard : Claim7 := { stood := { row := grantOrderRow, standIns := [], harness := (true, "ad361f8c9010d8bc8c83665426ff667c1a83a32d80b366ff0bd14d2eb2135fde"), looks := true }, kinds := [], alts := [], laidByText := true, laidKinds := [.data, .pinned], laidTests := true, laidLooks := .later }
def GrantOrderCardSaid : Prop := Claim7.holds Tryd.pinned (.plain (OpenSpec.ofChange grantOrderSpec)) grantOrderCard

/-- THE TIED CARD OF 'mortmainlaw10.GrantPuts'. -/
def grantPutsCard : Claim7 := { stood := { row := grantPutsRow, standIns := [], harness := (true, "ad361f8c9010d8bc8c83665426ff667c1a83a32d80b366ff0bd14d2eb2135fde"), looks := true }, kinds := [], alts := [], laidByText := true, laidKinds := [.data, .pinned], laidTests := true, laidLooks := .later }
def GrantPutsCardSaid : Prop := Claim7.holds Tryd.pinned (.plain (OpenSpec.ofChange grantPutsSpec)) grantPutsCard

/-- THE TIED CARD OF 'mortmainlaw10.GrantGives'. -/
def grantGivesCard : Claim7 := { stood := { row := grantGivesRow, standIns := [], harness := (true, "ad361f8c9010d8bc8c83665426ff667c1a83a32d80b366ff0bd14d2eb2135fde"), looks := true }, kinds := [], alts := [], laidByText := true, laidKinds := [.data, .pinned], laidTests := true, laidLooks := .later }
def GrantGivesCardSaid : Prop := Claim7.holds Tryd.pinned (.plain (OpenSpec.ofChange grantGivesSpec)) grantGivesCard

/-- THE TIED CARD OF 'mortmainlaw09.SchemaReads'. -/
def schemaReadsCard : Claim7 := { stood := { row := schemaReadsRow, standIns := [], harness := (true, "ad361f8c9010d8bc8c83665426ff667c1a83a32d80b366ff0bd14d2eb2135fde"), looks := true }, kinds := [], alts := [], laidByText := true, laidKinds := [.data, .pinned], laidTests := true, laidLooks := .later }
def SchemaReadsCardSaid : Prop := Claim7.holds Tryd.pinned (.plain (OpenSpec.ofChange schemaReadsSpec)) schemaReadsCard

/-- THE TIED CARD OF 'mortmainlaw09.SchemaBytes'. -/
def schemaBytesCard : Claim7 := { stood := { row := schemaBytesRow, standIns := [], harness := (true, "ad361f8c9010d8bc8c83665426ff667c1a83a32d80b366ff0bd14d2eb2135fde"), looks := true }, kinds := [], alts := [], laidByText := true, laidKinds := [.data, .pinned], laidTests := true, laidLooks := .later }
def SchemaBytesCardSaid : Prop := Claim7.holds Tryd.pinned (.plain (OpenSpec.ofChange schemaBytesSpec)) schemaBytesCard

/-- THE SECOND FORM's CARD OF 'mortmainlaw10.GrantMay'. -/
def grantMayUptoCard : Claim7 := { stood := { row := grantMayUptoRow, standIns := [], harness := (true, "ad361f8c9010d8bc8c83665426ff667c1a83a32d80b366ff0bd14d2eb2135fde"), looks := true }, kinds := [], alts := [], laidByText := true, laidKinds := [.data, .pinned], laidTests := true, laidLooks := .later }
def GrantMayUptoCardSaid : Prop := Claim7.holds Tryd.pinned (.plain (OpenSpec.upto grantMaySpec)) grantMayUptoCard

/-- THE SECOND FORM's CARD OF 'mortmainlaw10.GrantTakes'. -/
def grantTakesUptoCard : Claim7 := { stood := { row := grantTakesUptoRow, standIns := [], harness := (true, "ad361f8c9010d8bc8c83665426ff667c1a83a32d80b366ff0bd14d2eb2135fde"), looks := true }, kinds := [], alts := [], laidByText := true, laidKinds := [.data, .pinned], laidTests := true, laidLooks := .later }
def GrantTakesUptoCardSaid : Prop := Claim7.holds Tryd.pinned (.plain (OpenSpec.upto grantTakesSpec)) grantTakesUptoCard

/-- THE SECOND FORM's CARD OF 'mortmainlaw09.SchemaTables'. -/
def schemaTablesUptoCard : Claim7 := { stood := { row := schemaTablesUptoRow, standIns := [], harness := (true, "ad361f8c9010d8bc8c83665426ff667c1a83a32d80b366ff0bd14d2eb2135fde"), looks := true }, kinds := [], alts := [], laidByText := true, laidKinds := [.data, .pinned], laidTests := true, laidLooks := .later }
def SchemaTablesUptoCardSaid : Prop := Claim7.holds Tryd.pinned (.plain (OpenSpec.upto schemaTablesSpec)) schemaTablesUptoCard

/-- THE SECOND FORM's CARD OF 'mortmainlaw09.SchemaLinks'. -/
def schemaLinksUptoCard : Claim7 := { stood := { row := schemaLinksUptoRow, standIns := [], harness := (true, "ad361f8c9010d8bc8c83665426ff667c1a83a32d80b366ff0bd14d2eb2135fde"), looks := true }, kinds := [], alts := [], laidByText := true, laidKinds := [.data, .pinned], laidTests := true, laidLooks := .later }
def SchemaLinksUptoCardSaid : Prop := Claim7.holds Tryd.pinned (.plain (OpenSpec.upto schemaLinksSpec)) schemaLinksUptoCard

/-- THE SECOND FORM's CARD OF 'mortmainlaw10.GrantOrder'. -/
def grantOrderUptoCard : Claim7 := { stood := { row := grantOrderUptoRow, standIns := [], harness := (true, "ad361f8c9010d8bc8c83665426ff667c1a83a32d80b366ff0bd14d2eb2135fde"), looks := true }, kinds := [], alts := [], laidByText := true, laidKinds := [.data, .pinned], laidTests := true, laidLooks := .later }
def GrantOrderUptoCardSaid : Prop := Claim7.holds Tryd.pinned (.plain (OpenSpec.upto grantOrderSpec)) grantOrderUptoCard

/-- THE SECOND FORM's CARD OF 'mortmainlaw10.GrantPuts'. -/
def grantPutsUptoCard : Claim7 := { stood := { row := grantPutsUptoRow, standIns := [], harness := (true, "ad361f8c9010d8bc8c83665426ff667c1a83a32d80b366ff0bd14d2eb2135fde"), looks := true }, kinds := [], alts := [], laidByText := true, laidKinds := [.data, .pinned], laidTests := true, laidLooks := .later }
def GrantPutsUptoCardSaid : Prop := Claim7.holds Tryd.pinned (.plain (OpenSpec.upto grantPutsSpec)) grantPutsUptoCard

/-- THE SECOND FORM's CARD OF 'mortmainlaw10.GrantGives'. -/
def grantGivesUptoCard : Claim7 := { stood := { row := grantGivesUptoRow, standIns := [], harness := (true, "ad361f8c9010d8bc8c83665426ff667c1a83a32d80b366ff0bd14d2eb2135fde"), looks := true }, kinds := [], alts := [], laidByText := true, laidKinds := [.data, .pinned], laidTests := true, laidLooks := .later }
def GrantGivesUptoCardSaid : Prop := Claim7.holds Tryd.pinned (.plain (OpenSpec.upto grantGivesSpec)) grantGivesUptoCard

/-- THE SECOND FORM's CARD OF 'mortmainlaw09.SchemaReads'. -/
def schemaReadsUptoCard : Claim7 := { stood := { row := schemaReadsUptoRow, standIns := [], harness := (true, "ad361f8c9010d8bc8c83665426ff667c1a83a32d80b366ff0bd14d2eb2135fde"), looks := true }, kinds := [], alts := [], laidByText := true, laidKinds := [.data, .pinned], laidTests := true, laidLooks := .later }
def SchemaReadsUptoCardSaid : Prop := Claim7.holds Tryd.pinned (.plain (OpenSpec.upto schemaReadsSpec)) schemaReadsUptoCard

/-- THE SECOND FORM's CARD OF 'mortmainlaw09.SchemaBytes'. -/
def schemaBytesUptoCard : Claim7 := { stood := { row := schemaBytesUptoRow, standIns := [], harness := (true, "ad361f8c9010d8bc8c83665426ff667c1a83a32d80b366ff0bd14d2eb2135fde"), looks := true }, kinds := [], alts := [], laidByText := true, laidKinds := [.data, .pinned], laidTests := true, laidLooks := .later }
def SchemaBytesUptoCardSaid : Prop := Claim7.holds Tryd.pinned (.plain (OpenSpec.upto schemaBytesSpec)) schemaBytesUptoCard
end Rows
end Go.Proofs.YtefdfgmlmjnmlaaDoor
