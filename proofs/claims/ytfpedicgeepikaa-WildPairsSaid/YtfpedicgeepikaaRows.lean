/-
  No cell of these rows narrows 'for every input' (looked for: loops, veiled, ifaces, maps, wideKeys, modest, calm, conditions, laid).
  DERIVED. THE GIVEN ROWS OF THIS SEAT. 3 by the template 'for every input the law returns true; each argument reads behind the call as it read before'; 0 by the template 'total and deterministic' (their statements: YtfpedicgeepikaaTotals.lean).
  GIVEN WITH THE SEED: the statements are not yours to turn. If you find one false, say at which input.
  Laid BY PROGRAM, IN A SANDBOX (cutbox-rows.mjs): the forced cells as the released guide's own fill.sh prints them over the translation b573566f44934e43… (all of the seat's roots in one cut). By AI agents, Wed Nov 11 2026. No macro, syntax, notation, axiom, sorry.
-/
import Derived.Test.YtfpedicgeepikaaChecked
import GoSem.Claim
import GoSem.ClaimJoined
import GoSem.ClaimMapViews
import Derived.JoinedTies
import Derived.KernelRfl
namespace Go.Proofs.Ytfpedicgeepikaa
/- THE CELL 'sum', in the pinned program and in every row, IS THE sha256 OF THE DUMP (.gsa) THAT YtfpedicgeepikaaProg.lean LOADS. Nothing in Lean hashes anything: it is a label: what it is worth is what the hold of that sum in a sandbox is worth. -/
noncomputable def Try.pinned : Pinned := { name := "ytfpedicgeepikaa", sum := "b573566f44934e431d2e0e9a61a51c8abcd3198c381faa2fb13bd381032233b0", checked := Try.checked }
namespace Rows
def none {H : Type} : Left H := { results := [], args := [] }

/-- 'rubriclaw14.WildSpaces': WHATEVER THE INPUT: true; the input reads as it did. -/
def wildSpacesSpec : ChangeSpec := { name := "wildSpaces", fn := fun _ => fun
  | [d1, d2, d3, d4] => { results := [.lit (.bool true)], args := [d1, d2, d3, d4] }
  | _ => none }
def wildSpacesRow : OpenClaim := { program := "ytfpedicgeepikaa", sum := "b573566f44934e431d2e0e9a61a51c8abcd3198c381faa2fb13bd381032233b0", func := "rubric/rubriclaw14.WildSpaces", spec := "wildSpaces", unfollowed := true, recurses := true, apart := false }
def WildSpacesSaid : Prop := wildSpacesRow.holds Try.pinned (OpenSpec.ofChange wildSpacesSpec)

/-- ITS FALSE NEIGHBOUR: 'it returns false'. Refute it at one input. -/
def wildSpacesWrong : ChangeSpec := { name := "wildSpaces", fn := fun _ => fun
  | [d1, d2, d3, d4] => { results := [.lit (.bool false)], args := [d1, d2, d3, d4] }
  | _ => none }
def WildSpacesWrongFalsely : Prop := wildSpacesRow.holds Try.pinned (OpenSpec.ofChange wildSpacesWrong)

/-- 'rubriclaw14.WildSubs': WHATEVER THE INPUT: true; the input reads as it did. -/
def wildSubsSpec : ChangeSpec := { name := "wildSubs", fn := fun _ => fun
  | [d1, d2, d3] => { results := [.lit (.bool true)], args := [d1, d2, d3] }
  | _ => none }
def wildSubsRow : OpenClaim := { program := "ytfpedicgeepikaa", sum := "b573566f44934e431d2e0e9a61a51c8abcd3198c381faa2fb13bd381032233b0", func := "rubric/rubriclaw14.WildSubs", spec := "wildSubs", unfollowed := true, recurses := true, apart := false }
def WildSubsSaid : Prop := wildSubsRow.holds Try.pinned (OpenSpec.ofChange wildSubsSpec)

/-- ITS FALSE NEIGHBOUR: 'it returns false'. Refute it at one input. -/
def wildSubsWrong : ChangeSpec := { name := "wildSubs", fn := fun _ => fun
  | [d1, d2, d3] => { results := [.lit (.bool false)], args := [d1, d2, d3] }
  | _ => none }
def WildSubsWrongFalsely : Prop := wildSubsRow.holds Try.pinned (OpenSpec.ofChange wildSubsWrong)

/-- 'rubriclaw14.WildPairs': WHATEVER THE INPUT: true; the input reads as it did. -/
def wildPairsSpec : ChangeSpec := { name := "wildPairs", fn := fun _ => fun
  | [d1, d2, d3] => { results := [.lit (.bool true)], args := [d1, d2, d3] }
  | _ => none }
def wildPairsRow : OpenClaim := { program := "ytfpedicgeepikaa", sum := "b573566f44934e431d2e0e9a61a51c8abcd3198c381faa2fb13bd381032233b0", func := "rubric/rubriclaw14.WildPairs", spec := "wildPairs", unfollowed := true, recurses := true, apart := false }
def WildPairsSaid : Prop := wildPairsRow.holds Try.pinned (OpenSpec.ofChange wildPairsSpec)

/-- ITS FALSE NEIGHBOUR: 'it returns false'. Refute it at one input. -/
def wildPairsWrong : ChangeSpec := { name := "wildPairs", fn := fun _ => fun
  | [d1, d2, d3] => { results := [.lit (.bool false)], args := [d1, d2, d3] }
  | _ => none }
def WildPairsWrongFalsely : Prop := wildPairsRow.holds Try.pinned (OpenSpec.ofChange wildPairsWrong)

/- THE SECOND FORM. 'bulk': how many values and letters a reading holds, each counted each time it is reached (what is shared counts as often as it is met; a slice's spare places count too). A statement '..UptoSaid' is the law's where the arguments, and the package variables that the reading takes, are together of bulk at most 1048576: NARROWER than '..Said'. Prove '..Said' where nothing that the law and all that it calls make is longer than what came in: it says more and counts as full. Else prove '..UptoSaid'. A law counts once. -/
mutual
def uptoBulk {H : Type} : DataW H → Nat
  | .lit (.string bytes) => bytes.length + 1
  | .lit _ => 1
  | .nil => 1
  | .ptr d => uptoBulk d + 1
  | .slice elems spare => uptoBulkAll elems + uptoBulkAll spare + 1
  | .agg parts => uptoBulkAll parts + 1
  | .iface _ d => uptoBulk d + 1
  | .map entries => uptoBulkEntries entries + 1
  | .held _ => 1
def uptoBulkAll {H : Type} : List (DataW H) → Nat
  | [] => 0
  | d :: r => uptoBulk d + uptoBulkAll r
def uptoBulkEntries {H : Type} : List (Lit × DataW H) → Nat
  | [] => 0
  | x :: r => uptoBulkEntry x + uptoBulkEntries r
def uptoBulkEntry {H : Type} : Lit × DataW H → Nat
  | (.string bytes, d) => bytes.length + uptoBulk d + 1
  | (_, d) => uptoBulk d + 1
 end
def uptoSmall : (H : Type) → List (DataW H) → Bool := fun _ ds => decide (uptoBulkAll ds ≤ 1048576)
def OpenSpec.upto (s : _root_.Go.ChangeSpec) : _root_.Go.OpenSpec := { _root_.Go.OpenSpec.ofChange s with cond := some uptoSmall }

/-- 'rubriclaw14.WildSpaces', WHERE WHAT IT READS IS OF BULK AT MOST 1048576: true; the input reads as it did. -/
def wildSpacesUptoRow : OpenClaim := { program := "ytfpedicgeepikaa", sum := "b573566f44934e431d2e0e9a61a51c8abcd3198c381faa2fb13bd381032233b0", func := "rubric/rubriclaw14.WildSpaces", spec := "wildSpaces", unfollowed := true, recurses := true, apart := false, narrowed := true }
def WildSpacesUptoSaid : Prop := wildSpacesUptoRow.holds Try.pinned (OpenSpec.upto wildSpacesSpec)

/-- 'rubriclaw14.WildSubs', WHERE WHAT IT READS IS OF BULK AT MOST 1048576: true; the input reads as it did. -/
def wildSubsUptoRow : OpenClaim := { program := "ytfpedicgeepikaa", sum := "b573566f44934e431d2e0e9a61a51c8abcd3198c381faa2fb13bd381032233b0", func := "rubric/rubriclaw14.WildSubs", spec := "wildSubs", unfollowed := true, recurses := true, apart := false, narrowed := true }
def WildSubsUptoSaid : Prop := wildSubsUptoRow.holds Try.pinned (OpenSpec.upto wildSubsSpec)

/-- 'rubriclaw14.WildPairs', WHERE WHAT IT READS IS OF BULK AT MOST 1048576: true; the input reads as it did. -/
def wildPairsUptoRow : OpenClaim := { program := "ytfpedicgeepikaa", sum := "b573566f44934e431d2e0e9a61a51c8abcd3198c381faa2fb13bd381032233b0", func := "rubric/rubriclaw14.WildPairs", spec := "wildPairs", unfollowed := true, recurses := true, apart := false, narrowed := true }
def WildPairsUptoSaid : Prop := wildPairsUptoRow.holds Try.pinned (OpenSpec.upto wildPairsSpec)

end Rows
end Go.Proofs.Ytfpedicgeepikaa
