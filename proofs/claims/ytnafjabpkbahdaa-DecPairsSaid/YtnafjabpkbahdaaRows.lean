/-
  No cell of these rows narrows 'for every input' (looked for: loops, veiled, ifaces, maps, wideKeys, modest, calm, conditions, laid).
  DERIVED. THE GIVEN ROWS OF THIS SEAT. 3 by the template 'for every input the law returns true; each argument reads behind the call as it read before'; 0 by the template 'total and deterministic' (their statements: YtnafjabpkbahdaaTotals.lean).
  GIVEN WITH THE SEED: the statements are not yours to turn. If you find one false, say at which input.
  Laid BY PROGRAM, IN A SANDBOX (cutbox-rows.mjs): the forced cells as the released guide's own fill.sh prints them over the translation ec5f72be657febfc… (all of the seat's roots in one cut). By AI agents, Wed Nov 11 2026. No macro, syntax, notation, axiom, sorry.
-/
import Derived.Test.YtnafjabpkbahdaaChecked
import GoSem.Claim
import GoSem.ClaimJoined
import GoSem.ClaimMapViews
import Derived.JoinedTies
import Derived.KernelRfl
namespace Go.Proofs.Ytnafjabpkbahdaa
/- THE CELL 'sum', in the pinned program and in every row, IS THE sha256 OF THE DUMP (.gsa) THAT YtnafjabpkbahdaaProg.lean LOADS. Nothing in Lean hashes anything: it is a label: what it is worth is what the hold of that sum in a sandbox is worth. -/
noncomputable def Try.pinned : Pinned := { name := "ytnafjabpkbahdaa", sum := "ec5f72be657febfca5169fb1ed0d28d3311bdb2580c42844d4ef96cb9b1eabed", checked := Try.checked }
namespace Rows
def none {H : Type} : Left H := { results := [], args := [] }

/-- 'rubriclaw5.DecForms': WHATEVER THE INPUT: true; the input reads as it did. -/
def decFormsSpec : ChangeSpec := { name := "decForms", fn := fun _ => fun
  | [d1, d2, d3, d4] => { results := [.lit (.bool true)], args := [d1, d2, d3, d4] }
  | _ => none }
def decFormsRow : OpenClaim := { program := "ytnafjabpkbahdaa", sum := "ec5f72be657febfca5169fb1ed0d28d3311bdb2580c42844d4ef96cb9b1eabed", func := "rubric/rubriclaw5.DecForms", spec := "decForms", inPlace := ["internal/bytealg.IndexByteString", "internal/bytealg.IndexString", "slices.overlaps[byte]", "internal/abi.NoEscape"], unfollowed := true, recurses := true, named := ["internal/bytealg.MaxLen"], apart := false }
def DecFormsSaid : Prop := decFormsRow.holds Try.pinned (OpenSpec.ofChange decFormsSpec)

/-- ITS FALSE NEIGHBOUR: 'it returns false'. Refute it at one input. -/
def decFormsWrong : ChangeSpec := { name := "decForms", fn := fun _ => fun
  | [d1, d2, d3, d4] => { results := [.lit (.bool false)], args := [d1, d2, d3, d4] }
  | _ => none }
def DecFormsWrongFalsely : Prop := decFormsRow.holds Try.pinned (OpenSpec.ofChange decFormsWrong)

/-- 'rubriclaw5.DecOrders': WHATEVER THE INPUT: true; the input reads as it did. -/
def decOrdersSpec : ChangeSpec := { name := "decOrders", fn := fun _ => fun
  | [d1, d2, d3] => { results := [.lit (.bool true)], args := [d1, d2, d3] }
  | _ => none }
def decOrdersRow : OpenClaim := { program := "ytnafjabpkbahdaa", sum := "ec5f72be657febfca5169fb1ed0d28d3311bdb2580c42844d4ef96cb9b1eabed", func := "rubric/rubriclaw5.DecOrders", spec := "decOrders", inPlace := ["internal/bytealg.IndexByteString", "internal/bytealg.IndexString", "slices.overlaps[byte]", "internal/abi.NoEscape"], unfollowed := true, recurses := true, named := ["internal/bytealg.MaxLen"], apart := false }
def DecOrdersSaid : Prop := decOrdersRow.holds Try.pinned (OpenSpec.ofChange decOrdersSpec)

/-- ITS FALSE NEIGHBOUR: 'it returns false'. Refute it at one input. -/
def decOrdersWrong : ChangeSpec := { name := "decOrders", fn := fun _ => fun
  | [d1, d2, d3] => { results := [.lit (.bool false)], args := [d1, d2, d3] }
  | _ => none }
def DecOrdersWrongFalsely : Prop := decOrdersRow.holds Try.pinned (OpenSpec.ofChange decOrdersWrong)

/-- 'rubriclaw5.DecPairs': WHATEVER THE INPUT: true; the input reads as it did. -/
def decPairsSpec : ChangeSpec := { name := "decPairs", fn := fun _ => fun
  | [d1, d2] => { results := [.lit (.bool true)], args := [d1, d2] }
  | _ => none }
def decPairsRow : OpenClaim := { program := "ytnafjabpkbahdaa", sum := "ec5f72be657febfca5169fb1ed0d28d3311bdb2580c42844d4ef96cb9b1eabed", func := "rubric/rubriclaw5.DecPairs", spec := "decPairs", inPlace := ["internal/bytealg.IndexByteString", "internal/bytealg.IndexString", "slices.overlaps[byte]", "internal/abi.NoEscape"], unfollowed := true, recurses := true, named := ["internal/bytealg.MaxLen"], apart := false }
def DecPairsSaid : Prop := decPairsRow.holds Try.pinned (OpenSpec.ofChange decPairsSpec)

/-- ITS FALSE NEIGHBOUR: 'it returns false'. Refute it at one input. -/
def decPairsWrong : ChangeSpec := { name := "decPairs", fn := fun _ => fun
  | [d1, d2] => { results := [.lit (.bool false)], args := [d1, d2] }
  | _ => none }
def DecPairsWrongFalsely : Prop := decPairsRow.holds Try.pinned (OpenSpec.ofChange decPairsWrong)

/- THE SECOND FORM. 'bulk': how many values and letters a reading holds, each counted each time it is reached (what is shared counts as often as it is met; a slice's spare places count too). A statement '..UptoSaid' is the law's where the arguments, and the package variables that the reading takes, are together of bulk at most 1048576: NARROWER than '..Said'. Prove '..Said' where nothing that the law and all that it calls make is longer than what came in: it says more and counts as full. Else prove '..UptoSaid'. A law counts once. -/
mutual
def uptoBulk {H : Type} : DataW H → Nat
  | .lit (.string bytes) => bytes.length + 1
  | .lit _ => 1
  | .nil => 1
  | .ptr d => uptoBulk d + 1
  | .slice elems spare => uptoBulkAll elems + uptoBulkAll spare + 1
  | .agg parts => uptoBulkAll parts + 1
  | .iface _ d => uptoBulk d + 1
  | .map entries => uptoBulkEntries entries + 1
  | .held _ => 1
def uptoBulkAll {H : Type} : List (DataW H) → Nat
  | [] => 0
  | d :: r => uptoBulk d + uptoBulkAll r
def uptoBulkEntries {H : Type} : List (Lit × DataW H) → Nat
  | [] => 0
  | x :: r => uptoBulkEntry x + uptoBulkEntries r
def uptoBulkEntry {H : Type} : Lit × DataW H → Nat
  | (.string bytes, d) => bytes.length + uptoBulk d + 1
  | (_, d) => uptoBulk d + 1
 end
def uptoSmall : (H : Type) → List (DataW H) → Bool := fun _ ds => decide (uptoBulkAll ds ≤ 1048576)
def OpenSpec.upto (s : _root_.Go.ChangeSpec) : _root_.Go.OpenSpec := { _root_.Go.OpenSpec.ofChange s with cond := some uptoSmall }

/-- 'rubriclaw5.DecForms', WHERE WHAT IT READS IS OF BULK AT MOST 1048576: true; the input reads as it did. -/
def decFormsUptoRow : OpenClaim := { program := "ytnafjabpkbahdaa", sum := "ec5f72be657febfca5169fb1ed0d28d3311bdb2580c42844d4ef96cb9b1eabed", func := "rubric/rubriclaw5.DecForms", spec := "decForms", inPlace := ["internal/bytealg.IndexByteString", "internal/bytealg.IndexString", "slices.overlaps[byte]", "internal/abi.NoEscape"], unfollowed := true, recurses := true, named := ["internal/bytealg.MaxLen"], apart := false, narrowed := true }
def DecFormsUptoSaid : Prop := decFormsUptoRow.holds Try.pinned (OpenSpec.upto decFormsSpec)

/-- 'rubriclaw5.DecOrders', WHERE WHAT IT READS IS OF BULK AT MOST 1048576: true; the input reads as it did. -/
def decOrdersUptoRow : OpenClaim := { program := "ytnafjabpkbahdaa", sum := "ec5f72be657febfca5169fb1ed0d28d3311bdb2580c42844d4ef96cb9b1eabed", func := "rubric/rubriclaw5.DecOrders", spec := "decOrders", inPlace := ["internal/bytealg.IndexByteString", "internal/bytealg.IndexString", "slices.overlaps[byte]", "internal/abi.NoEscape"], unfollowed := true, recurses := true, named := ["internal/bytealg.MaxLen"], apart := false, narrowed := true }
def DecOrdersUptoSaid : Prop := decOrdersUptoRow.holds Try.pinned (OpenSpec.upto decOrdersSpec)

/-- 'rubriclaw5.DecPairs', WHERE WHAT IT READS IS OF BULK AT MOST 1048576: true; the input reads as it did. -/
def decPairsUptoRow : OpenClaim := { program := "ytnafjabpkbahdaa", sum := "ec5f72be657febfca5169fb1ed0d28d3311bdb2580c42844d4ef96cb9b1eabed", func := "rubric/rubriclaw5.DecPairs", spec := "decPairs", inPlace := ["internal/bytealg.IndexByteString", "internal/bytealg.IndexString", "slices.overlaps[byte]", "internal/abi.NoEscape"], unfollowed := true, recurses := true, named := ["internal/bytealg.MaxLen"], apart := false, narrowed := true }
def DecPairsUptoSaid : Prop := decPairsUptoRow.holds Try.pinned (OpenSpec.upto decPairsSpec)

end Rows
end Go.Proofs.Ytnafjabpkbahdaa
