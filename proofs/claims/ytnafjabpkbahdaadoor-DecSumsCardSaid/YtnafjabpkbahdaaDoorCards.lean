/-
  DERIVED. GIVEN WITH THE SEED: THE CARDS: each row of YtnafjabpkbahdaaDoorRows.lean that lists a variable, with what it lists TIED to the program's text (the seventh form; the later family's looks); each row that meets fmt, with fmt's text TOLD by the authors' own Lean function (tested against real Go, not proved from fmt's source: count such statements apart). THE CARD IS WHAT COUNTS. Prove the row's statement (the work); the ties are given (YtnafjabpkbahdaaDoorTie.lean); close each card by the builder's one call (the guide's Derived/Test/ToyasCard.lean, 'card_holds'). Laid BY PROGRAM, IN A SANDBOX (cutbox-door.mjs). By AI agents, Wed Nov 11 2026. No macro, syntax, notation, axiom, sorry.
-/
import Derived.Test.YtnafjabpkbahdaaDoorRows
import GoSem.ClaimSeven
namespace Go.Proofs.YtnafjabpkbahdaaDoor
namespace Rows

/-- THE TIED CARD OF 'rubriclaw5.DecSums'. -/
def decSumsCard : Claim7 := { stood := { row := decSumsRow, standIns := [], harness := (true, "729a976c93d18ad039c40901b3c24c69ae3493afdcbc5b35921dd8ed62abd80b"), looks := false }, kinds := [], alts := [], laidByText := true, laidKinds := [.data, .data, .data], laidTests := true, laidLooks := .later }
def DecSumsCardSaid : Prop := Claim7.holds Tryd.pinned (.plain (OpenSpec.ofChange decSumsSpec)) decSumsCard

/-- THE SECOND FORM's CARD OF 'rubriclaw5.DecSums'. -/
def decSumsUptoCard : Claim7 := { stood := { row := decSumsUptoRow, standIns := [], harness := (true, "729a976c93d18ad039c40901b3c24c69ae3493afdcbc5b35921dd8ed62abd80b"), looks := false }, kinds := [], alts := [], laidByText := true, laidKinds := [.data, .data, .data], laidTests := true, laidLooks := .later }
def DecSumsUptoCardSaid : Prop := Claim7.holds Tryd.pinned (.plain (OpenSpec.upto decSumsSpec)) decSumsUptoCard
end Rows
end Go.Proofs.YtnafjabpkbahdaaDoor
