/-
  NARROWER THAN 'FOR EVERY INPUT', by the rows' own cells (each row's printed sentence says how): GrantMay: loops, laid · GrantTakes: laid · SchemaTables: loops, laid · SchemaLinks: loops, laid · GrantOrder: laid · GrantPuts: laid · GrantGives: loops, laid · SchemaReads: laid · SchemaBytes: loops, laid.
  DERIVED. THE GIVEN ROWS OF THIS SEAT. 9 by the template 'for every input the law returns true; each argument reads behind the call as it read before'; 0 by the template 'total and deterministic' (their statements: YtefdfgmlmjnmlaaDoorTotals.lean).
  GIVEN WITH THE SEED: the statements are not yours to turn. If you find one false, say at which input.
  Laid BY PROGRAM, IN A SANDBOX (cutbox-rows.mjs): the forced cells as the released guide's own fill.sh prints them over the translation c24928de51d9486f… (all of the seat's roots in one cut). By AI agents, Wed Nov 11 2026. No macro, syntax, notation, axiom, sorry.
-/
import Derived.Test.YtefdfgmlmjnmlaaDoorChecked
import GoSem.PinnedTables
import GoSem.Claim
import GoSem.ClaimJoined
import GoSem.ClaimMapViews
import Derived.JoinedTies
import Derived.KernelRfl
namespace Go.Proofs.YtefdfgmlmjnmlaaDoor
/- THE CELL 'sum', in the pinned program and in every row, IS THE sha256 OF THE DUMP (.gsa) THAT YtefdfgmlmjnmlaaDoorProg.lean LOADS. Nothing in Lean hashes anything: it is a label: what it is worth is what the hold of that sum in a sandbox is worth. -/
noncomputable def Tryd.pinned : Pinned := { name := "ytefdfgmlmjnmlaadoor", sum := "c24928de51d9486f14f3ea4515a217d97ebb9e469861f2eace9ad3032e942d97", checked := Tryd.checked }
namespace Rows
def none {H : Type} : Left H := { results := [], args := [] }

/- WHAT THE LISTED PACKAGE-LEVEL VARIABLES READ AS WHEN THE CALL BEGINS. Each datum BY PROGRAM (the guide's laid-datum.mjs) off the statement by which the dump's own 'gosem.cut.vars' lays the variable. In a bare row this is a premise. The card (YtefdfgmlmjnmlaaDoorCards.lean) ties it to the program's text. -/
def laid_unicode_utf8_acceptRanges {H : Type} : DataW H := .agg [.agg [.lit (.int .u8 128), .lit (.int .u8 191)], .agg [.lit (.int .u8 160), .lit (.int .u8 191)], .agg [.lit (.int .u8 128), .lit (.int .u8 159)], .agg [.lit (.int .u8 144), .lit (.int .u8 191)], .agg [.lit (.int .u8 128), .lit (.int .u8 143)], .agg [.lit (.int .u8 0), .lit (.int .u8 0)], .agg [.lit (.int .u8 0), .lit (.int .u8 0)], .agg [.lit (.int .u8 0), .lit (.int .u8 0)], .agg [.lit (.int .u8 0), .lit (.int .u8 0)], .agg [.lit (.int .u8 0), .lit (.int .u8 0)], .agg [.lit (.int .u8 0), .lit (.int .u8 0)], .agg [.lit (.int .u8 0), .lit (.int .u8 0)], .agg [.lit (.int .u8 0), .lit (.int .u8 0)], .agg [.lit (.int .u8 0), .lit (.int .u8 0)], .agg [.lit (.int .u8 0), .lit (.int .u8 0)], .agg [.lit (.int .u8 0), .lit (.int .u8 0)]]
/-- One of Go's own tables, pinned by name: the form's constant. -/
def laid_unicode_utf8_first : DataW Unit := Go.Pinned.utf8First

/-- 'mortmainlaw10.GrantMay': WHATEVER THE INPUT: true; the input reads as it did. -/
def grantMaySpec : ChangeSpec := { name := "grantMay", fn := fun _ => fun
  | [d1, d2, d3, d4, d5] => { results := [.lit (.bool true)], args := [d1, d2, d3, d4, d5] }
  | _ => none }
def grantMayRow : OpenClaim := { program := "ytefdfgmlmjnmlaadoor", sum := "c24928de51d9486f14f3ea4515a217d97ebb9e469861f2eace9ad3032e942d97", func := "mortmain/mortmainlaw10.GrantMay", spec := "grantMay", inPlace := ["internal/bytealg.IndexByteString"], unfollowed := true, recurses := true, named := ["unicode/utf8.first", "unicode/utf8.acceptRanges"], loops := true, apart := false, laid := [("unicode/utf8.acceptRanges", laid_unicode_utf8_acceptRanges), ("unicode/utf8.first", laid_unicode_utf8_first)] }
def GrantMaySaid : Prop := grantMayRow.holds Tryd.pinned (OpenSpec.ofChange grantMaySpec)

/-- ITS FALSE NEIGHBOUR: 'it returns false'. Refute it at one input. -/
def grantMayWrong : ChangeSpec := { name := "grantMay", fn := fun _ => fun
  | [d1, d2, d3, d4, d5] => { results := [.lit (.bool false)], args := [d1, d2, d3, d4, d5] }
  | _ => none }
def GrantMayWrongFalsely : Prop := grantMayRow.holds Tryd.pinned (OpenSpec.ofChange grantMayWrong)

/-- 'mortmainlaw10.GrantTakes': WHATEVER THE INPUT: true; the input reads as it did. -/
def grantTakesSpec : ChangeSpec := { name := "grantTakes", fn := fun _ => fun
  | [d1, d2] => { results := [.lit (.bool true)], args := [d1, d2] }
  | _ => none }
def grantTakesRow : OpenClaim := { program := "ytefdfgmlmjnmlaadoor", sum := "c24928de51d9486f14f3ea4515a217d97ebb9e469861f2eace9ad3032e942d97", func := "mortmain/mortmainlaw10.GrantTakes", spec := "grantTakes", inPlace := ["internal/bytealg.IndexByteString"], unfollowed := true, recurses := true, named := ["unicode/utf8.first", "unicode/utf8.acceptRanges"], apart := false, laid := [("unicode/utf8.acceptRanges", laid_unicode_utf8_acceptRanges), ("unicode/utf8.first", laid_unicode_utf8_first)] }
def GrantTakesSaid : Prop := grantTakesRow.holds Tryd.pinned (OpenSpec.ofChange grantTakesSpec)

/-- ITS FALSE NEIGHBOUR: 'it returns false'. Refute it at one input. -/
def grantTakesWrong : ChangeSpec := { name := "grantTakes", fn := fun _ => fun
  | [d1, d2] => { results := [.lit (.bool false)], args := [d1, d2] }
  | _ => none }
def GrantTakesWrongFalsely : Prop := grantTakesRow.holds Tryd.pinned (OpenSpec.ofChange grantTakesWrong)

/-- 'mortmainlaw09.SchemaTables': WHATEVER THE INPUT: true; the input reads as it did. -/
def schemaTablesSpec : ChangeSpec := { name := "schemaTables", fn := fun _ => fun
  | [d1, d2, d3] => { results := [.lit (.bool true)], args := [d1, d2, d3] }
  | _ => none }
def schemaTablesRow : OpenClaim := { program := "ytefdfgmlmjnmlaadoor", sum := "c24928de51d9486f14f3ea4515a217d97ebb9e469861f2eace9ad3032e942d97", func := "mortmain/mortmainlaw09.SchemaTables", spec := "schemaTables", inPlace := ["internal/bytealg.IndexByteString", "math.Float64frombits", "math.Float64bits"], unfollowed := true, recurses := true, named := ["unicode/utf8.first", "unicode/utf8.acceptRanges"], loops := true, apart := false, laid := [("unicode/utf8.acceptRanges", laid_unicode_utf8_acceptRanges), ("unicode/utf8.first", laid_unicode_utf8_first)] }
def SchemaTablesSaid : Prop := schemaTablesRow.holds Tryd.pinned (OpenSpec.ofChange schemaTablesSpec)

/-- ITS FALSE NEIGHBOUR: 'it returns false'. Refute it at one input. -/
def schemaTablesWrong : ChangeSpec := { name := "schemaTables", fn := fun _ => fun
  | [d1, d2, d3] => { results := [.lit (.bool false)], args := [d1, d2, d3] }
  | _ => none }
def SchemaTablesWrongFalsely : Prop := schemaTablesRow.holds Tryd.pinned (OpenSpec.ofChange schemaTablesWrong)

/-- 'mortmainlaw09.SchemaLinks': WHATEVER THE INPUT: true; the input reads as it did. -/
def schemaLinksSpec : ChangeSpec := { name := "schemaLinks", fn := fun _ => fun
  | [d1, d2] => { results := [.lit (.bool true)], args := [d1, d2] }
  | _ => none }
def schemaLinksRow : OpenClaim := { program := "ytefdfgmlmjnmlaadoor", sum := "c24928de51d9486f14f3ea4515a217d97ebb9e469861f2eace9ad3032e942d97", func := "mortmain/mortmainlaw09.SchemaLinks", spec := "schemaLinks", inPlace := ["internal/bytealg.IndexByteString", "math.Float64frombits", "math.Float64bits"], unfollowed := true, recurses := true, named := ["unicode/utf8.first", "unicode/utf8.acceptRanges"], loops := true, apart := false, laid := [("unicode/utf8.acceptRanges", laid_unicode_utf8_acceptRanges), ("unicode/utf8.first", laid_unicode_utf8_first)] }
def SchemaLinksSaid : Prop := schemaLinksRow.holds Tryd.pinned (OpenSpec.ofChange schemaLinksSpec)

/-- ITS FALSE NEIGHBOUR: 'it returns false'. Refute it at one input. -/
def schemaLinksWrong : ChangeSpec := { name := "schemaLinks", fn := fun _ => fun
  | [d1, d2] => { results := [.lit (.bool false)], args := [d1, d2] }
  | _ => none }
def SchemaLinksWrongFalsely : Prop := schemaLinksRow.holds Tryd.pinned (OpenSpec.ofChange schemaLinksWrong)

/-- 'mortmainlaw10.GrantOrder': WHATEVER THE INPUT: true; the input reads as it did. -/
def grantOrderSpec : ChangeSpec := { name := "grantOrder", fn := fun _ => fun
  | [d1, d2, d3] => { results := [.lit (.bool true)], args := [d1, d2, d3] }
  | _ => none }
def grantOrderRow : OpenClaim := { program := "ytefdfgmlmjnmlaadoor", sum := "c24928de51d9486f14f3ea4515a217d97ebb9e469861f2eace9ad3032e942d97", func := "mortmain/mortmainlaw10.GrantOrder", spec := "grantOrder", inPlace := ["internal/bytealg.IndexByteString", "slices.overlaps[mortmain/api.Grant]"], unfollowed := true, recurses := true, named := ["unicode/utf8.first", "unicode/utf8.acceptRanges"], apart := false, laid := [("unicode/utf8.acceptRanges", laid_unicode_utf8_acceptRanges), ("unicode/utf8.first", laid_unicode_utf8_first)] }
def GrantOrderSaid : Prop := grantOrderRow.holds Tryd.pinned (OpenSpec.ofChange grantOrderSpec)

/-- ITS FALSE NEIGHBOUR: 'it returns false'. Refute it at one input. -/
def grantOrderWrong : ChangeSpec := { name := "grantOrder", fn := fun _ => fun
  | [d1, d2, d3] => { results := [.lit (.bool false)], args := [d1, d2, d3] }
  | _ => none }
def GrantOrderWrongFalsely : Prop := grantOrderRow.holds Tryd.pinned (OpenSpec.ofChange grantOrderWrong)

/-- 'mortmainlaw10.GrantPuts': WHATEVER THE INPUT: true; the input reads as it did. -/
def grantPutsSpec : ChangeSpec := { name := "grantPuts", fn := fun _ => fun
  | [d1, d2] => { results := [.lit (.bool true)], args := [d1, d2] }
  | _ => none }
def grantPutsRow : OpenClaim := { program := "ytefdfgmlmjnmlaadoor", sum := "c24928de51d9486f14f3ea4515a217d97ebb9e469861f2eace9ad3032e942d97", func := "mortmain/mortmainlaw10.GrantPuts", spec := "grantPuts", inPlace := ["internal/bytealg.IndexByteString", "slices.overlaps[mortmain/api.Grant]"], unfollowed := true, recurses := true, named := ["unicode/utf8.first", "unicode/utf8.acceptRanges"], apart := false, laid := [("unicode/utf8.acceptRanges", laid_unicode_utf8_acceptRanges), ("unicode/utf8.first", laid_unicode_utf8_first)] }
def GrantPutsSaid : Prop := grantPutsRow.holds Tryd.pinned (OpenSpec.ofChange grantPutsSpec)

/-- ITS FALSE NEIGHBOUR: 'it returns false'. Refute it at one input. -/
def grantPutsWrong : ChangeSpec := { name := "grantPuts", fn := fun _ => fun
  | [d1, d2] => { results := [.lit (.bool false)], args := [d1, d2] }
  | _ => none }
def GrantPutsWrongFalsely : Prop := grantPutsRow.holds Tryd.pinned (OpenSpec.ofChange grantPutsWrong)

/-- 'mortmainlaw10.GrantGives': WHATEVER THE INPUT: true; the input reads as it did. -/
def grantGivesSpec : ChangeSpec := { name := "grantGives", fn := fun _ => fun
  | [d1, d2, d3, d4, d5] => { results := [.lit (.bool true)], args := [d1, d2, d3, d4, d5] }
  | _ => none }
def grantGivesRow : OpenClaim := { program := "ytefdfgmlmjnmlaadoor", sum := "c24928de51d9486f14f3ea4515a217d97ebb9e469861f2eace9ad3032e942d97", func := "mortmain/mortmainlaw10.GrantGives", spec := "grantGives", inPlace := ["internal/bytealg.IndexByteString", "slices.overlaps[mortmain/api.Grant]"], unfollowed := true, recurses := true, named := ["unicode/utf8.first", "unicode/utf8.acceptRanges"], loops := true, apart := false, laid := [("unicode/utf8.acceptRanges", laid_unicode_utf8_acceptRanges), ("unicode/utf8.first", laid_unicode_utf8_first)] }
def GrantGivesSaid : Prop := grantGivesRow.holds Tryd.pinned (OpenSpec.ofChange grantGivesSpec)

/-- ITS FALSE NEIGHBOUR: 'it returns false'. Refute it at one input. -/
def grantGivesWrong : ChangeSpec := { name := "grantGives", fn := fun _ => fun
  | [d1, d2, d3, d4, d5] => { results := [.lit (.bool false)], args := [d1, d2, d3, d4, d5] }
  | _ => none }
def GrantGivesWrongFalsely : Prop := grantGivesRow.holds Tryd.pinned (OpenSpec.ofChange grantGivesWrong)

/-- 'mortmainlaw09.SchemaReads': WHATEVER THE INPUT: true; the input reads as it did. -/
def schemaReadsSpec : ChangeSpec := { name := "schemaReads", fn := fun _ => fun
  | [d] => { results := [.lit (.bool true)], args := [d] }
  | _ => none }
def schemaReadsRow : OpenClaim := { program := "ytefdfgmlmjnmlaadoor", sum := "c24928de51d9486f14f3ea4515a217d97ebb9e469861f2eace9ad3032e942d97", func := "mortmain/mortmainlaw09.SchemaReads", spec := "schemaReads", inPlace := ["internal/bytealg.IndexByteString", "math.Float64frombits", "math.Float64bits"], unfollowed := true, recurses := true, named := ["unicode/utf8.first", "unicode/utf8.acceptRanges"], apart := false, laid := [("unicode/utf8.acceptRanges", laid_unicode_utf8_acceptRanges), ("unicode/utf8.first", laid_unicode_utf8_first)] }
def SchemaReadsSaid : Prop := schemaReadsRow.holds Tryd.pinned (OpenSpec.ofChange schemaReadsSpec)

/-- ITS FALSE NEIGHBOUR: 'it returns false'. Refute it at one input. -/
def schemaReadsWrong : ChangeSpec := { name := "schemaReads", fn := fun _ => fun
  | [d] => { results := [.lit (.bool false)], args := [d] }
  | _ => none }
def SchemaReadsWrongFalsely : Prop := schemaReadsRow.holds Tryd.pinned (OpenSpec.ofChange schemaReadsWrong)

/-- 'mortmainlaw09.SchemaBytes': WHATEVER THE INPUT: true; the input reads as it did. -/
def schemaBytesSpec : ChangeSpec := { name := "schemaBytes", fn := fun _ => fun
  | [d] => { results := [.lit (.bool true)], args := [d] }
  | _ => none }
def schemaBytesRow : OpenClaim := { program := "ytefdfgmlmjnmlaadoor", sum := "c24928de51d9486f14f3ea4515a217d97ebb9e469861f2eace9ad3032e942d97", func := "mortmain/mortmainlaw09.SchemaBytes", spec := "schemaBytes", inPlace := ["internal/bytealg.IndexByteString", "math.Float64frombits", "math.Float64bits", "internal/abi.NoEscape"], unfollowed := true, recurses := true, named := ["unicode/utf8.first", "unicode/utf8.acceptRanges"], loops := true, apart := false, laid := [("unicode/utf8.acceptRanges", laid_unicode_utf8_acceptRanges), ("unicode/utf8.first", laid_unicode_utf8_first)] }
def SchemaBytesSaid : Prop := schemaBytesRow.holds Tryd.pinned (OpenSpec.ofChange schemaBytesSpec)

/-- ITS FALSE NEIGHBOUR: 'it returns false'. Refute it at one input. -/
def schemaBytesWrong : ChangeSpec := { name := "schemaBytes", fn := fun _ => fun
  | [d] => { results := [.lit (.bool false)], args := [d] }
  | _ => none }
def SchemaBytesWrongFalsely : Prop := schemaBytesRow.holds Tryd.pinned (OpenSpec.ofChange schemaBytesWrong)

/- THE SECOND FORM. 'bulk': how many values and letters a reading holds, each counted each time it is reached (what is shared counts as often as it is met; a slice's spare places count too). A statement '..UptoSaid' is the law's where the arguments, and the package variables that the reading takes, are together of bulk at most 1048576: NARROWER than '..Said'. Prove '..Said' where nothing that the law and all that it calls make is longer than what came in: it says more and counts as full. Else prove '..UptoSaid'. A law counts once. -/
mutual
def uptoBulk {H : Type} : DataW H → Nat
  | .lit (.string bytes) => bytes.length + 1
  | .lit _ => 1
  | .nil => 1
  | .ptr d => uptoBulk d + 1
  | .slice elems spare => uptoBulkAll elems + uptoBulkAll spare + 1
  | .agg parts => uptoBulkAll parts + 1
  | .iface _ d => uptoBulk d + 1
  | .map entries => uptoBulkEntries entries + 1
  | .held _ => 1
def uptoBulkAll {H : Type} : List (DataW H) → Nat
  | [] => 0
  | d :: r => uptoBulk d + uptoBulkAll r
def uptoBulkEntries {H : Type} : List (Lit × DataW H) → Nat
  | [] => 0
  | x :: r => uptoBulkEntry x + uptoBulkEntries r
def uptoBulkEntry {H : Type} : Lit × DataW H → Nat
  | (.string bytes, d) => bytes.length + uptoBulk d + 1
  | (_, d) => uptoBulk d + 1
 end
def uptoSmall : (H : Type) → List (DataW H) → Bool := fun _ ds => decide (uptoBulkAll ds ≤ 1048576)
def OpenSpec.upto (s : _root_.Go.ChangeSpec) : _root_.Go.OpenSpec := { _root_.Go.OpenSpec.ofChange s with cond := some uptoSmall }

/-- 'mortmainlaw10.GrantMay', WHERE WHAT IT READS IS OF BULK AT MOST 1048576: true; the input reads as it did. -/
def grantMayUptoRow : OpenClaim := { program := "ytefdfgmlmjnmlaadoor", sum := "c24928de51d9486f14f3ea4515a217d97ebb9e469861f2eace9ad3032e942d97", func := "mortmain/mortmainlaw10.GrantMay", spec := "grantMay", inPlace := ["internal/bytealg.IndexByteString"], unfollowed := true, recurses := true, named := ["unicode/utf8.first", "unicode/utf8.acceptRanges"], loops := true, apart := false, laid := [("unicode/utf8.acceptRanges", laid_unicode_utf8_acceptRanges), ("unicode/utf8.first", laid_unicode_utf8_first)], narrowed := true }
def GrantMayUptoSaid : Prop := grantMayUptoRow.holds Tryd.pinned (OpenSpec.upto grantMaySpec)

/-- 'mortmainlaw10.GrantTakes', WHERE WHAT IT READS IS OF BULK AT MOST 1048576: true; the input reads as it did. -/
def grantTakesUptoRow : OpenClaim := { program := "ytefdfgmlmjnmlaadoor", sum := "c24928de51d9486f14f3ea4515a217d97ebb9e469861f2eace9ad3032e942d97", func := "mortmain/mortmainlaw10.GrantTakes", spec := "grantTakes", inPlace := ["internal/bytealg.IndexByteString"], unfollowed := true, recurses := true, named := ["unicode/utf8.first", "unicode/utf8.acceptRanges"], apart := false, laid := [("unicode/utf8.acceptRanges", laid_unicode_utf8_acceptRanges), ("unicode/utf8.first", laid_unicode_utf8_first)], narrowed := true }
def GrantTakesUptoSaid : Prop := grantTakesUptoRow.holds Tryd.pinned (OpenSpec.upto grantTakesSpec)

/-- 'mortmainlaw09.SchemaTables', WHERE WHAT IT READS IS OF BULK AT MOST 1048576: true; the input reads as it did. -/
def schemaTablesUptoRow : OpenClaim := { program := "ytefdfgmlmjnmlaadoor", sum := "c24928de51d9486f14f3ea4515a217d97ebb9e469861f2eace9ad3032e942d97", func := "mortmain/mortmainlaw09.SchemaTables", spec := "schemaTables", inPlace := ["internal/bytealg.IndexByteString", "math.Float64frombits", "math.Float64bits"], unfollowed := true, recurses := true, named := ["unicode/utf8.first", "unicode/utf8.acceptRanges"], loops := true, apart := false, laid := [("unicode/utf8.acceptRanges", laid_unicode_utf8_acceptRanges), ("unicode/utf8.first", laid_unicode_utf8_first)], narrowed := true }
def SchemaTablesUptoSaid : Prop := schemaTablesUptoRow.holds Tryd.pinned (OpenSpec.upto schemaTablesSpec)

/-- 'mortmainlaw09.SchemaLinks', WHERE WHAT IT READS IS OF BULK AT MOST 1048576: true; the input reads as it did. -/
def schemaLinksUptoRow : OpenClaim := { program := "ytefdfgmlmjnmlaadoor", sum := "c24928de51d9486f14f3ea4515a217d97ebb9e469861f2eace9ad3032e942d97", func := "mortmain/mortmainlaw09.SchemaLinks", spec := "schemaLinks", inPlace := ["internal/bytealg.IndexByteString", "math.Float64frombits", "math.Float64bits"], unfollowed := true, recurses := true, named := ["unicode/utf8.first", "unicode/utf8.acceptRanges"], loops := true, apart := false, laid := [("unicode/utf8.acceptRanges", laid_unicode_utf8_acceptRanges), ("unicode/utf8.first", laid_unicode_utf8_first)], narrowed := true }
def SchemaLinksUptoSaid : Prop := schemaLinksUptoRow.holds Tryd.pinned (OpenSpec.upto schemaLinksSpec)

/-- 'mortmainlaw10.GrantOrder', WHERE WHAT IT READS IS OF BULK AT MOST 1048576: true; the input reads as it did. -/
def grantOrderUptoRow : OpenClaim := { program := "ytefdfgmlmjnmlaadoor", sum := "c24928de51d9486f14f3ea4515a217d97ebb9e469861f2eace9ad3032e942d97", func := "mortmain/mortmainlaw10.GrantOrder", spec := "grantOrder", inPlace := ["internal/bytealg.IndexByteString", "slices.overlaps[mortmain/api.Grant]"], unfollowed := true, recurses := true, named := ["unicode/utf8.first", "unicode/utf8.acceptRanges"], apart := false, laid := [("unicode/utf8.acceptRanges", laid_unicode_utf8_acceptRanges), ("unicode/utf8.first", laid_unicode_utf8_first)], narrowed := true }
def GrantOrderUptoSaid : Prop := grantOrderUptoRow.holds Tryd.pinned (OpenSpec.upto grantOrderSpec)

/-- 'mortmainlaw10.GrantPuts', WHERE WHAT IT READS IS OF BULK AT MOST 1048576: true; the input reads as it did. -/
def grantPutsUptoRow : OpenClaim := { program := "ytefdfgmlmjnmlaadoor", sum := "c24928de51d9486f14f3ea4515a217d97ebb9e469861f2eace9ad3032e942d97", func := "mortmain/mortmainlaw10.GrantPuts", spec := "grantPuts", inPlace := ["internal/bytealg.IndexByteString", "slices.overlaps[mortmain/api.Grant]"], unfollowed := true, recurses := true, named := ["unicode/utf8.first", "unicode/utf8.acceptRanges"], apart := false, laid := [("unicode/utf8.acceptRanges", laid_unicode_utf8_acceptRanges), ("unicode/utf8.first", laid_unicode_utf8_first)], narrowed := true }
def GrantPutsUptoSaid : Prop := grantPutsUptoRow.holds Tryd.pinned (OpenSpec.upto grantPutsSpec)

/-- 'mortmainlaw10.GrantGives', WHERE WHAT IT READS IS OF BULK AT MOST 1048576: true; the input reads as it did. -/
def grantGivesUptoRow : OpenClaim := { program := "ytefdfgmlmjnmlaadoor", sum := "c24928de51d9486f14f3ea4515a217d97ebb9e469861f2eace9ad3032e942d97", func := "mortmain/mortmainlaw10.GrantGives", spec := "grantGives", inPlace := ["internal/bytealg.IndexByteString", "slices.overlaps[mortmain/api.Grant]"], unfollowed := true, recurses := true, named := ["unicode/utf8.first", "unicode/utf8.acceptRanges"], loops := true, apart := false, laid := [("unicode/utf8.acceptRanges", laid_unicode_utf8_acceptRanges), ("unicode/utf8.first", laid_unicode_utf8_first)], narrowed := true }
def GrantGivesUptoSaid : Prop := grantGivesUptoRow.holds Tryd.pinned (OpenSpec.upto grantGivesSpec)

/-- 'mortmainlaw09.SchemaReads', WHERE WHAT IT READS IS OF BULK AT MOST 1048576: true; the input reads as it did. -/
def schemaReadsUptoRow : OpenClaim := { program := "ytefdfgmlmjnmlaadoor", sum := "c24928de51d9486f14f3ea4515a217d97ebb9e469861f2eace9ad3032e942d97", func := "mortmain/mortmainlaw09.SchemaReads", spec := "schemaReads", inPlace := ["internal/bytealg.IndexByteString", "math.Float64frombits", "math.Float64bits"], unfollowed := true, recurses := true, named := ["unicode/utf8.first", "unicode/utf8.acceptRanges"], apart := false, laid := [("unicode/utf8.acceptRanges", laid_unicode_utf8_acceptRanges), ("unicode/utf8.first", laid_unicode_utf8_first)], narrowed := true }
def SchemaReadsUptoSaid : Prop := schemaReadsUptoRow.holds Tryd.pinned (OpenSpec.upto schemaReadsSpec)

/-- 'mortmainlaw09.SchemaBytes', WHERE WHAT IT READS IS OF BULK AT MOST 1048576: true; the input reads as it did. -/
def schemaBytesUptoRow : OpenClaim := { program := "ytefdfgmlmjnmlaadoor", sum := "c24928de51d9486f14f3ea4515a217d97ebb9e469861f2eace9ad3032e942d97", func := "mortmain/mortmainlaw09.SchemaBytes", spec := "schemaBytes", inPlace := ["internal/bytealg.IndexByteString", "math.Float64frombits", "math.Float64bits", "internal/abi.NoEscape"], unfollowed := true, recurses := true, named := ["unicode/utf8.first", "unicode/utf8.acceptRanges"], loops := true, apart := false, laid := [("unicode/utf8.acceptRanges", laid_unicode_utf8_acceptRanges), ("unicode/utf8.first", laid_unicode_utf8_first)], narrowed := true }
def SchemaBytesUptoSaid : Prop := schemaBytesUptoRow.holds Tryd.pinned (OpenSpec.upto schemaBytesSpec)

end Rows
end Go.Proofs.YtefdfgmlmjnmlaaDoor
