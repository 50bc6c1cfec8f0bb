/-
  No cell of these rows narrows 'for every input' (looked for: loops, veiled, ifaces, maps, wideKeys, modest, calm, conditions, laid).
  DERIVED. THE GIVEN ROWS OF THIS SEAT. 4 by the template 'for every input the law returns true; each argument reads behind the call as it read before'; 0 by the template 'total and deterministic' (their statements: YtjhmpippcndloaaTotals.lean).
  GIVEN WITH THE SEED: the statements are not yours to turn. If you find one false, say at which input.
  Laid BY PROGRAM, IN A SANDBOX (cutbox-rows.mjs): the forced cells as the released guide's own fill.sh prints them over the translation 29e9e76a443325bc… (all of the seat's roots in one cut). By AI agents, Wed Nov 11 2026. No macro, syntax, notation, axiom, sorry.
-/
import Derived.Test.YtjhmpippcndloaaChecked
import GoSem.Claim
import GoSem.ClaimJoined
import GoSem.ClaimMapViews
import Derived.JoinedTies
import Derived.KernelRfl
namespace Go.Proofs.Ytjhmpippcndloaa
/- THE CELL 'sum', in the pinned program and in every row, IS THE sha256 OF THE DUMP (.gsa) THAT YtjhmpippcndloaaProg.lean LOADS. Nothing in Lean hashes anything: it is a label: what it is worth is what the hold of that sum in a sandbox is worth. -/
noncomputable def Try.pinned : Pinned := { name := "ytjhmpippcndloaa", sum := "29e9e76a443325bc075a79c4c9ee8a6ecf8e77234d42404ecfc771a3094ed3a0", checked := Try.checked }
namespace Rows
def none {H : Type} : Left H := { results := [], args := [] }

/-- 'rubriclaw7.SetEdges': WHATEVER THE INPUT: true; the input reads as it did. -/
def setEdgesSpec : ChangeSpec := { name := "setEdges", fn := fun _ => fun
  | [d1, d2, d3, d4] => { results := [.lit (.bool true)], args := [d1, d2, d3, d4] }
  | _ => none }
def setEdgesRow : OpenClaim := { program := "ytjhmpippcndloaa", sum := "29e9e76a443325bc075a79c4c9ee8a6ecf8e77234d42404ecfc771a3094ed3a0", func := "rubric/rubriclaw7.SetEdges", spec := "setEdges", unfollowed := true, recurses := true, apart := false }
def SetEdgesSaid : Prop := setEdgesRow.holds Try.pinned (OpenSpec.ofChange setEdgesSpec)

/-- ITS FALSE NEIGHBOUR: 'it returns false'. Refute it at one input. -/
def setEdgesWrong : ChangeSpec := { name := "setEdges", fn := fun _ => fun
  | [d1, d2, d3, d4] => { results := [.lit (.bool false)], args := [d1, d2, d3, d4] }
  | _ => none }
def SetEdgesWrongFalsely : Prop := setEdgesRow.holds Try.pinned (OpenSpec.ofChange setEdgesWrong)

/-- 'rubriclaw7.SetOrders': WHATEVER THE INPUT: true; the input reads as it did. -/
def setOrdersSpec : ChangeSpec := { name := "setOrders", fn := fun _ => fun
  | [d1, d2] => { results := [.lit (.bool true)], args := [d1, d2] }
  | _ => none }
def setOrdersRow : OpenClaim := { program := "ytjhmpippcndloaa", sum := "29e9e76a443325bc075a79c4c9ee8a6ecf8e77234d42404ecfc771a3094ed3a0", func := "rubric/rubriclaw7.SetOrders", spec := "setOrders", unfollowed := true, recurses := true, apart := false }
def SetOrdersSaid : Prop := setOrdersRow.holds Try.pinned (OpenSpec.ofChange setOrdersSpec)

/-- ITS FALSE NEIGHBOUR: 'it returns false'. Refute it at one input. -/
def setOrdersWrong : ChangeSpec := { name := "setOrders", fn := fun _ => fun
  | [d1, d2] => { results := [.lit (.bool false)], args := [d1, d2] }
  | _ => none }
def SetOrdersWrongFalsely : Prop := setOrdersRow.holds Try.pinned (OpenSpec.ofChange setOrdersWrong)

/-- 'rubriclaw7.SetNames': WHATEVER THE INPUT: true; the input reads as it did. -/
def setNamesSpec : ChangeSpec := { name := "setNames", fn := fun _ => fun
  | [d1, d2, d3] => { results := [.lit (.bool true)], args := [d1, d2, d3] }
  | _ => none }
def setNamesRow : OpenClaim := { program := "ytjhmpippcndloaa", sum := "29e9e76a443325bc075a79c4c9ee8a6ecf8e77234d42404ecfc771a3094ed3a0", func := "rubric/rubriclaw7.SetNames", spec := "setNames", unfollowed := true, recurses := true, apart := false }
def SetNamesSaid : Prop := setNamesRow.holds Try.pinned (OpenSpec.ofChange setNamesSpec)

/-- ITS FALSE NEIGHBOUR: 'it returns false'. Refute it at one input. -/
def setNamesWrong : ChangeSpec := { name := "setNames", fn := fun _ => fun
  | [d1, d2, d3] => { results := [.lit (.bool false)], args := [d1, d2, d3] }
  | _ => none }
def SetNamesWrongFalsely : Prop := setNamesRow.holds Try.pinned (OpenSpec.ofChange setNamesWrong)

/-- 'rubriclaw7.SetLaws': WHATEVER THE INPUT: true; the input reads as it did. -/
def setLawsSpec : ChangeSpec := { name := "setLaws", fn := fun _ => fun
  | [d1, d2, d3] => { results := [.lit (.bool true)], args := [d1, d2, d3] }
  | _ => none }
def setLawsRow : OpenClaim := { program := "ytjhmpippcndloaa", sum := "29e9e76a443325bc075a79c4c9ee8a6ecf8e77234d42404ecfc771a3094ed3a0", func := "rubric/rubriclaw7.SetLaws", spec := "setLaws", unfollowed := true, recurses := true, apart := false }
def SetLawsSaid : Prop := setLawsRow.holds Try.pinned (OpenSpec.ofChange setLawsSpec)

/-- ITS FALSE NEIGHBOUR: 'it returns false'. Refute it at one input. -/
def setLawsWrong : ChangeSpec := { name := "setLaws", fn := fun _ => fun
  | [d1, d2, d3] => { results := [.lit (.bool false)], args := [d1, d2, d3] }
  | _ => none }
def SetLawsWrongFalsely : Prop := setLawsRow.holds Try.pinned (OpenSpec.ofChange setLawsWrong)

/- THE SECOND FORM. 'bulk': how many values and letters a reading holds, each counted each time it is reached (what is shared counts as often as it is met; a slice's spare places count too). A statement '..UptoSaid' is the law's where the arguments, and the package variables that the reading takes, are together of bulk at most 1048576: NARROWER than '..Said'. Prove '..Said' where nothing that the law and all that it calls make is longer than what came in: it says more and counts as full. Else prove '..UptoSaid'. A law counts once. -/
mutual
def uptoBulk {H : Type} : DataW H → Nat
  | .lit (.string bytes) => bytes.length + 1
  | .lit _ => 1
  | .nil => 1
  | .ptr d => uptoBulk d + 1
  | .slice elems spare => uptoBulkAll elems + uptoBulkAll spare + 1
  | .agg parts => uptoBulkAll parts + 1
  | .iface _ d => uptoBulk d + 1
  | .map entries => uptoBulkEntries entries + 1
  | .held _ => 1
def uptoBulkAll {H : Type} : List (DataW H) → Nat
  | [] => 0
  | d :: r => uptoBulk d + uptoBulkAll r
def uptoBulkEntries {H : Type} : List (Lit × DataW H) → Nat
  | [] => 0
  | x :: r => uptoBulkEntry x + uptoBulkEntries r
def uptoBulkEntry {H : Type} : Lit × DataW H → Nat
  | (.string bytes, d) => bytes.length + uptoBulk d + 1
  | (_, d) => uptoBulk d + 1
 end
def uptoSmall : (H : Type) → List (DataW H) → Bool := fun _ ds => decide (uptoBulkAll ds ≤ 1048576)
def OpenSpec.upto (s : _root_.Go.ChangeSpec) : _root_.Go.OpenSpec := { _root_.Go.OpenSpec.ofChange s with cond := some uptoSmall }

/-- 'rubriclaw7.SetEdges', WHERE WHAT IT READS IS OF BULK AT MOST 1048576: true; the input reads as it did. -/
def setEdgesUptoRow : OpenClaim := { program := "ytjhmpippcndloaa", sum := "29e9e76a443325bc075a79c4c9ee8a6ecf8e77234d42404ecfc771a3094ed3a0", func := "rubric/rubriclaw7.SetEdges", spec := "setEdges", unfollowed := true, recurses := true, apart := false, narrowed := true }
def SetEdgesUptoSaid : Prop := setEdgesUptoRow.holds Try.pinned (OpenSpec.upto setEdgesSpec)

/-- 'rubriclaw7.SetOrders', WHERE WHAT IT READS IS OF BULK AT MOST 1048576: true; the input reads as it did. -/
def setOrdersUptoRow : OpenClaim := { program := "ytjhmpippcndloaa", sum := "29e9e76a443325bc075a79c4c9ee8a6ecf8e77234d42404ecfc771a3094ed3a0", func := "rubric/rubriclaw7.SetOrders", spec := "setOrders", unfollowed := true, recurses := true, apart := false, narrowed := true }
def SetOrdersUptoSaid : Prop := setOrdersUptoRow.holds Try.pinned (OpenSpec.upto setOrdersSpec)

/-- 'rubriclaw7.SetNames', WHERE WHAT IT READS IS OF BULK AT MOST 1048576: true; the input reads as it did. -/
def setNamesUptoRow : OpenClaim := { program := "ytjhmpippcndloaa", sum := "29e9e76a443325bc075a79c4c9ee8a6ecf8e77234d42404ecfc771a3094ed3a0", func := "rubric/rubriclaw7.SetNames", spec := "setNames", unfollowed := true, recurses := true, apart := false, narrowed := true }
def SetNamesUptoSaid : Prop := setNamesUptoRow.holds Try.pinned (OpenSpec.upto setNamesSpec)

/-- 'rubriclaw7.SetLaws', WHERE WHAT IT READS IS OF BULK AT MOST 1048576: true; the input reads as it did. -/
def setLawsUptoRow : OpenClaim := { program := "ytjhmpippcndloaa", sum := "29e9e76a443325bc075a79c4c9ee8a6ecf8e77234d42404ecfc771a3094ed3a0", func := "rubric/rubriclaw7.SetLaws", spec := "setLaws", unfollowed := true, recurses := true, apart := false, narrowed := true }
def SetLawsUptoSaid : Prop := setLawsUptoRow.holds Try.pinned (OpenSpec.upto setLawsSpec)

end Rows
end Go.Proofs.Ytjhmpippcndloaa
