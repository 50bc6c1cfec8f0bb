/-
  DERIVED. GIVEN WITH THE SEED: THE CARDS: each row of YtehaonhgbmlmnaaDoorRows.lean that lists a variable, with what it lists TIED to the program's text (the seventh form; the later family's looks); each row that meets fmt, with fmt's text TOLD by the authors' own Lean function (tested against real Go, not proved from fmt's source: count such statements apart). THE CARD IS WHAT COUNTS. Prove the row's statement (the work); the ties are given (YtehaonhgbmlmnaaDoorTie.lean); close each card by the builder's one call (the guide's Derived/Test/ToyasCard.lean, 'card_holds'). Laid BY PROGRAM, IN A SANDBOX (cutbox-door.mjs). By AI agents, Wed Nov 11 2026. No macro, syntax, notation, axiom, sorry.
-/
import Derived.Test.YtehaonhgbmlmnaaDoorRows
import GoSem.ClaimSeven
namespace Go.Proofs.YtehaonhgbmlmnaaDoor
namespace Rows

/-- THE TIED CARD OF 'rubriclaw6.DateOrders'. -/
def dateOrdersCard : Claim7 := { stood := { row := dateOrdersRow, standIns := [], harness := (true, "1800d2bf78ebf03772d5379ae98b72fba15ebfe36f127c1d0f3d4abc1faa300f"), looks := true }, kinds := [], alts := [], laidByText := true, laidKinds := [.data, .data, .data, .sentinel, .sentinel], laidTests := true, laidLooks := .later }
def DateOrdersCardSaid : Prop := Claim7.holds Tryd.pinned (.plain (OpenSpec.ofChange dateOrdersSpec)) dateOrdersCard

/-- THE TIED CARD OF 'rubriclaw6.DateZones'. -/
def dateZonesCard : Claim7 := { stood := { row := dateZonesRow, standIns := [], harness := (true, "1800d2bf78ebf03772d5379ae98b72fba15ebfe36f127c1d0f3d4abc1faa300f"), looks := true }, kinds := [], alts := [], laidByText := true, laidKinds := [.data, .data, .data, .sentinel, .sentinel], laidTests := true, laidLooks := .later }
def DateZonesCardSaid : Prop := Claim7.holds Tryd.pinned (.plain (OpenSpec.ofChange dateZonesSpec)) dateZonesCard

/-- THE TIED CARD OF 'rubriclaw6.DateAdds'. -/
def dateAddsCard : Claim7 := { stood := { row := dateAddsRow, standIns := [], harness := (true, "1800d2bf78ebf03772d5379ae98b72fba15ebfe36f127c1d0f3d4abc1faa300f"), looks := true }, kinds := [], alts := [], laidByText := true, laidKinds := [.data, .data, .data, .sentinel, .sentinel], laidTests := true, laidLooks := .later }
def DateAddsCardSaid : Prop := Claim7.holds Tryd.pinned (.plain (OpenSpec.ofChange dateAddsSpec)) dateAddsCard

/-- THE TIED CARD OF 'rubriclaw6.DateParts'. -/
def datePartsCard : Claim7 := { stood := { row := datePartsRow, standIns := [], harness := (true, "1800d2bf78ebf03772d5379ae98b72fba15ebfe36f127c1d0f3d4abc1faa300f"), looks := true }, kinds := [], alts := [], laidByText := true, laidKinds := [.data, .data, .data, .sentinel, .sentinel], laidTests := true, laidLooks := .later }
def DatePartsCardSaid : Prop := Claim7.holds Tryd.pinned (.plain (OpenSpec.ofChange datePartsSpec)) datePartsCard

/-- THE SECOND FORM's CARD OF 'rubriclaw6.DateOrders'. -/
def dateOrdersUptoCard : Claim7 := { stood := { row := dateOrdersUptoRow, standIns := [], harness := (true, "1800d2bf78ebf03772d5379ae98b72fba15ebfe36f127c1d0f3d4abc1faa300f"), looks := true }, kinds := [], alts := [], laidByText := true, laidKinds := [.data, .data, .data, .sentinel, .sentinel], laidTests := true, laidLooks := .later }
def DateOrdersUptoCardSaid : Prop := Claim7.holds Tryd.pinned (.plain (OpenSpec.upto dateOrdersSpec)) dateOrdersUptoCard

/-- THE SECOND FORM's CARD OF 'rubriclaw6.DateZones'. -/
def dateZonesUptoCard : Claim7 := { stood := { row := dateZonesUptoRow, standIns := [], harness := (true, "1800d2bf78ebf03772d5379ae98b72fba15ebfe36f127c1d0f3d4abc1faa300f"), looks := true }, kinds := [], alts := [], laidByText := true, laidKinds := [.data, .data, .data, .sentinel, .sentinel], laidTests := true, laidLooks := .later }
def DateZonesUptoCardSaid : Prop := Claim7.holds Tryd.pinned (.plain (OpenSpec.upto dateZonesSpec)) dateZonesUptoCard

/-- THE SECOND FORM's CARD OF 'rubriclaw6.DateAdds'. -/
def dateAddsUptoCard : Claim7 := { stood := { row := dateAddsUptoRow, standIns := [], harness := (true, "1800d2bf78ebf03772d5379ae98b72fba15ebfe36f127c1d0f3d4abc1faa300f"), looks := true }, kinds := [], alts := [], laidByText := true, laidKinds := [.data, .data, .data, .sentinel, .sentinel], laidTests := true, laidLooks := .later }
def DateAddsUptoCardSaid : Prop := Claim7.holds Tryd.pinned (.plain (OpenSpec.upto dateAddsSpec)) dateAddsUptoCard

/-- THE SECOND FORM's CARD OF 'rubriclaw6.DateParts'. -/
def datePartsUptoCard : Claim7 := { stood := { row := datePartsUptoRow, standIns := [], harness := (true, "1800d2bf78ebf03772d5379ae98b72fba15ebfe36f127c1d0f3d4abc1faa300f"), looks := true }, kinds := [], alts := [], laidByText := true, laidKinds := [.data, .data, .data, .sentinel, .sentinel], laidTests := true, laidLooks := .later }
def DatePartsUptoCardSaid : Prop := Claim7.holds Tryd.pinned (.plain (OpenSpec.upto datePartsSpec)) datePartsUptoCard
end Rows
end Go.Proofs.YtehaonhgbmlmnaaDoor
