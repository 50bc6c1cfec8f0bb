/- The law KindBounds answers true at every input and leaves its arguments as they were; its card, with the listed variables tied to the program's text. No condition. -/
import Derived.Test.YtdjgiphipjejlaaGreatDoorRows
import Derived.Test.YtdjgiphipjejlaaGreatDoorPrx6
import Derived.Test.YtdjgiphipjejlaaGreatDoorC7
import Derived.Test.YtdjgiphipjejlaaGreatDoorCards
import Derived.Test.YtdjgiphipjejlaaGreatDoorTie
import Derived.WalkKit
import Derived.LaidMore
import Derived.Stop.Joined
import Derived.SevenTiedAt
import Derived.ProofKit
import Derived.OpenShut
import Derived.ShutString
import Derived.ChangeOld
import Derived.Below
import Derived.SizedLaws
namespace Go.Proofs.YtdjgiphipjejlaaGreatDoor.kindBounds
open Go.ChangeShapes Go.WideShapes Go.ChangeAt Go.RowKit
open Go.ChangeMaps (open_string shut_string)
set_option linter.unusedVariables false
/-- What the row lists, where the program's own initialisers have run. -/
theorem door_met (os : Os) (args : Array Value) : laidMetH Tryz.prog Rows.kindBoundsRow.laid ((World.doorLaid Tryz.prog 400 os).forCall (fun _ _ => 0) ⟨#[], args, []⟩).memory :=
 laidMetH_of_parts3 (fuel := 8) (laidMet_of_run' 8 (by kernel_rfl) (by kernel_rfl)) (by kernel_rfl) (by kernel_rfl)
theorem own : ownKnob Tryz.prog.godebug = none := by kernel_rfl
set_option maxRecDepth 100000 in
theorem lifted (os : Os) (started : os.Started) (H : Type) (enc : TypeId × Value → H) :
  ReturnsInHanded {} Tryz.checked os 4 .any (fun w args => (Rows.kindBoundsSpec.pre enc Tryz.prog Tryz.f4 Rows.kindBoundsRow.domain false w args ∧ laidMetH Tryz.prog Rows.kindBoundsRow.laid w) ∧ sizedMet enc Tryz.prog Tryz.f4 (OpenSpec.ofChange Rows.kindBoundsSpec) false w args) (Rows.kindBoundsSpec.post enc Tryz.prog Tryz.f4 false true false false) := by
 refine returnsInHanded_of_change_and (C := Tryz.checked) (X := fun w _ => laidMetH Tryz.prog Rows.kindBoundsRow.laid w) (fun _ _ _ hh h => h.of_heap hh) own started (by kernel_rfl) Tryz.func4
  (ChangeSpec.witness_shaped (enc := enc) (C := Tryz.checked) (os := os) (X := fun w _ => laidMetH Tryz.prog Rows.kindBoundsRow.laid w) false (World.doorLaid Tryz.prog 400 os) #[.int .i64 0] 8 rfl (World.shaped_of_RefB (by kernel_rfl) (by kernel_rfl)) (by kernel_rfl) (by kernel_rfl) (by kernel_rfl) (door_met os _)) ?_
 intro W base args ds gs before hval0 hW hcnd hsz0 hlaid _; have hsz : (DataW.weightsEach Tryz.prog (Tryz.f4.params.toList ++ Rows.kindBoundsSpec.plain.varTypes Tryz.prog) (ds ++ gs)).all (· ≤ reachBytes) = true := hsz0; have hval : ∀ (j : Nat) t v, Tryz.f4.params[j]? = some t → args[j]? = some v → Value.okWide Tryz.prog W .any base t v := hval0; have hW' := hW; obtain ⟨p, q, hA0, hV, rfl, hfz, hnd⟩ := hW; have hA : DataW.TrodAll enc Tryz.prog W 0 (fun _ => true) true Tryz.f4.params.toList args.toList ds p := hA0; rw [Tryz.params4] at hA hval hsz; obtain ⟨v0, vs0, d0, ds0, p0, q0, hargs, rfl, rfl, h0, r0⟩ := trodAll_cons hA; obtain ⟨rfl, rfl, rfl⟩ := trodAll_nil r0; (obtain rfl : args = #[v0] := by cases args; simp_all); obtain ⟨rfl, rfl⟩ := trodVars_none hV; obtain ⟨a0, rfl, rfl, rfl, w0⟩ := open_int Tryz.underlying3 (hval 0 3 v0 rfl rfl) h0; clear hA0 hval0 hsz0 hsz; (refine (Pr.rubriclaw11_KindBounds.walk B.KindBounds_t a0 W w0).mono fun e W' ⟨he, bel⟩ => ?_); subst he; exact ⟨_, rfl, _, _, _, [], _, [], hW', trodAll_mk1 (shut_bool Tryz.underlying4 _), (trodAll_cons_mk (shut_int Tryz.underlying3 w0) trodAll_mk0), rfl, bel.frame _, fun h => by cases h⟩
theorem over : Rows.kindBoundsRow.holds Tryz.pinned (OpenSpec.ofChange Rows.kindBoundsSpec) :=
 OpenClaim.holds_of_wide 4 Tryz.f4 rfl rfl rfl rfl rfl rfl rfl ⟨rfl, rfl, rfl, rfl, rfl⟩ rfl rfl rfl rfl rfl (by kernel_rfl) Tryz.func4 (by kernel_rfl)
  (of_decide_eq_true (by kernel_rfl)) (by unfold Func.isWrapper; first | (rw [if_pos (by decide +kernel)]; kernel_rfl) | (rw [if_neg (by decide +kernel)]; exact ⟨rfl, rfl⟩))
  (fun os started H enc _ => lifted os started H enc)
theorem proved : Rows.KindBoundsSaid := over
#print axioms proved
end Go.Proofs.YtdjgiphipjejlaaGreatDoor.kindBounds
namespace Go.Proofs.YtdjgiphipjejlaaGreatDoor
open Go
set_option maxRecDepth 100000
/-- The tied card. -/
theorem kindBounds_holds : Rows.KindBoundsCardSaid :=
 Claim7.holds_tied_plain_at .later [] [.data, .data, .data, .sentinel, .sentinel] true (true, "919bca2942608ab6772451b44223643cba8bd89e569d874f445f59b779fab249") true
  kindBounds.proved (fun _ h => by cases h) (by kernel_rfl) (fun _ h => by cases h) kindBounds_row_tie rfl ⟨rfl, rfl⟩ (by kernel_rfl) rfl
  (fun f fn hf hfn => by
   obtain rfl : f = 4 := Option.some.inj ((show Tryz.prog.funcNamed "rubric/rubriclaw11.KindBounds" = some 4 by kernel_rfl).symm.trans hf) |>.symm
   obtain rfl : fn = Tryz.f4 := (Option.some.inj (Tryz.func4.symm.trans hfn)).symm
   exact ⟨by kernel_rfl, fun j t ht => by
    rw [Tryz.params4] at ht
    have hm := Array.mem_of_getElem? ht
    have hall : true = true := by kernel_rfl
    have h9 : ∀ q ∈ (#[3] : Array Nat), Tryz.prog.wantsStandIn q = false := by
     intro q hq
     simp only [List.mem_toArray, List.mem_cons, List.not_mem_nil, or_false] at hq
     rcases hq with rfl
     all_goals kernel_rfl
    exact h9 t hm⟩)
  (by kernel_rfl)
#print axioms kindBounds_holds
end Go.Proofs.YtdjgiphipjejlaaGreatDoor
