/-
  DERIVED. GIVEN WITH THE SEED: THE CARDS: each row of YtjopodnlffaogaaGreatDoorRows.lean that lists a variable, with what it lists TIED to the program's text (the seventh form; the later family's looks); each row that meets fmt, with fmt's text TOLD by the authors' own Lean function (tested against real Go, not proved from fmt's source: count such statements apart). THE CARD IS WHAT COUNTS. Prove the row's statement (the work); the ties are given (YtjopodnlffaogaaGreatDoorTie.lean); close each card by the builder's one call (the guide's Derived/Test/ToyasCard.lean, 'card_holds'). Laid BY PROGRAM, IN A SANDBOX (cutbox-door.mjs). By AI agents, Wed Nov 11 2026. No macro, syntax, notation, axiom, sorry.
-/
import Derived.Test.YtjopodnlffaogaaGreatDoorRows
import GoSem.ClaimSeven
namespace Go.Proofs.YtjopodnlffaogaaGreatDoor
namespace Rows

/-- THE TIED CARD OF 'ropelinetop.TopConfig'. -/
def topConfigCard : Claim7 := { stood := { row := topConfigRow, standIns := [], harness := (true, "411cf5d9b3e3716897f9688ee0f53cc93379a4f8abdcb1b24e4640da42838e4b"), looks := true }, kinds := [], alts := [], laidByText := true, laidKinds := [.data, .data, .data, .data, .sentinel, .sentinel, .widerDeep, .widerDeep, .data, .data, .pinned], laidTests := true, laidLooks := .later }
def TopConfigCardSaid : Prop := Claim7.holds Tryz.pinned (.plain (OpenSpec.ofChange topConfigSpec)) topConfigCard

/-- THE TIED CARD OF 'ropelinetop.TopNodes'. -/
def topNodesCard : Claim7 := { stood := { row := topNodesRow, standIns := [], harness := (true, "411cf5d9b3e3716897f9688ee0f53cc93379a4f8abdcb1b24e4640da42838e4b"), looks := true }, kinds := [], alts := [], laidByText := true, laidKinds := [.data, .data, .data, .data, .sentinel, .sentinel, .widerDeep, .widerDeep, .data, .data, .pinned], laidTests := true, laidLooks := .later }
def TopNodesCardSaid : Prop := Claim7.holds Tryz.pinned (.plain (OpenSpec.ofChange topNodesSpec)) topNodesCard

/-- THE TIED CARD OF 'ropelinetop.TopSame'. -/
def topSameCard : Claim7 := { stood := { row := topSameRow, standIns := [], harness := (true, "411cf5d9b3e3716897f9688ee0f53cc93379a4f8abdcb1b24e4640da42838e4b"), looks := true }, kinds := [], alts := [], laidByText := true, laidKinds := [.data, .data, .data, .data, .sentinel, .sentinel, .widerDeep, .widerDeep, .data, .data, .pinned], laidTests := true, laidLooks := .later }
def TopSameCardSaid : Prop := Claim7.holds Tryz.pinned (.plain (OpenSpec.ofChange topSameSpec)) topSameCard

/-- THE TIED CARD OF 'ropelinetop.TopLines'. -/
def topLinesCard : Claim7 := { stood := { row := topLinesRow, standIns := [], harness := (true, "411cf5d9b3e3716897f9688ee0f53cc93379a4f8abdcb1b24e4640da42838e4b"), looks := true }, kinds := [], alts := [], laidByText := true, laidKinds := [.data, .data, .data, .data, .sentinel, .sentinel, .widerDeep, .widerDeep, .data, .data, .pinned], laidTests := true, laidLooks := .later }
def TopLinesCardSaid : Prop := Claim7.holds Tryz.pinned (.plain (OpenSpec.ofChange topLinesSpec)) topLinesCard

/-- THE SECOND FORM's CARD OF 'ropelinetop.TopConfig'. -/
def topConfigUptoCard : Claim7 := { stood := { row := topConfigUptoRow, standIns := [], harness := (true, "411cf5d9b3e3716897f9688ee0f53cc93379a4f8abdcb1b24e4640da42838e4b"), looks := true }, kinds := [], alts := [], laidByText := true, laidKinds := [.data, .data, .data, .data, .sentinel, .sentinel, .widerDeep, .widerDeep, .data, .data, .pinned], laidTests := true, laidLooks := .later }
def TopConfigUptoCardSaid : Prop := Claim7.holds Tryz.pinned (.plain (OpenSpec.upto topConfigSpec)) topConfigUptoCard

/-- THE SECOND FORM's CARD OF 'ropelinetop.TopNodes'. -/
def topNodesUptoCard : Claim7 := { stood := { row := topNodesUptoRow, standIns := [], harness := (true, "411cf5d9b3e3716897f9688ee0f53cc93379a4f8abdcb1b24e4640da42838e4b"), looks := true }, kinds := [], alts := [], laidByText := true, laidKinds := [.data, .data, .data, .data, .sentinel, .sentinel, .widerDeep, .widerDeep, .data, .data, .pinned], laidTests := true, laidLooks := .later }
def TopNodesUptoCardSaid : Prop := Claim7.holds Tryz.pinned (.plain (OpenSpec.upto topNodesSpec)) topNodesUptoCard

/-- THE SECOND FORM's CARD OF 'ropelinetop.TopSame'. -/
def topSameUptoCard : Claim7 := { stood := { row := topSameUptoRow, standIns := [], harness := (true, "411cf5d9b3e3716897f9688ee0f53cc93379a4f8abdcb1b24e4640da42838e4b"), looks := true }, kinds := [], alts := [], laidByText := true, laidKinds := [.data, .data, .data, .data, .sentinel, .sentinel, .widerDeep, .widerDeep, .data, .data, .pinned], laidTests := true, laidLooks := .later }
def TopSameUptoCardSaid : Prop := Claim7.holds Tryz.pinned (.plain (OpenSpec.upto topSameSpec)) topSameUptoCard

/-- THE SECOND FORM's CARD OF 'ropelinetop.TopLines'. -/
def topLinesUptoCard : Claim7 := { stood := { row := topLinesUptoRow, standIns := [], harness := (true, "411cf5d9b3e3716897f9688ee0f53cc93379a4f8abdcb1b24e4640da42838e4b"), looks := true }, kinds := [], alts := [], laidByText := true, laidKinds := [.data, .data, .data, .data, .sentinel, .sentinel, .widerDeep, .widerDeep, .data, .data, .pinned], laidTests := true, laidLooks := .later }
def TopLinesUptoCardSaid : Prop := Claim7.holds Tryz.pinned (.plain (OpenSpec.upto topLinesSpec)) topLinesUptoCard
end Rows
end Go.Proofs.YtjopodnlffaogaaGreatDoor
