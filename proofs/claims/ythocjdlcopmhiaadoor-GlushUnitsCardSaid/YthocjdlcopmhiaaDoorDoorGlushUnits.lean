import Derived.Test.YthocjdlcopmhiaaDoorRows
import Derived.Test.YthocjdlcopmhiaaDoorM14
import Derived.Test.YthocjdlcopmhiaaDoorM15
import Derived.Test.YthocjdlcopmhiaaDoorM16
import Derived.Test.YthocjdlcopmhiaaDoorCards
import Derived.Test.YthocjdlcopmhiaaDoorTie
import Derived.WalkKit
import Derived.LaidMore
import Derived.Stop.Joined
import Derived.SevenTiedAt
import Derived.ProofKit
import Derived.OpenShut
import Derived.ShutString
import Derived.ChangeOld
import Derived.Below
import Derived.SizedLaws
/- The law GlushUnits answers true at every input and leaves its arguments as they were; its card, with the listed variables tied to the program's text. No condition. -/
namespace Go.Proofs.YthocjdlcopmhiaaDoor.glushUnits
open Go.ChangeShapes Go.WideShapes Go.ChangeAt Go.RowKit
open Go.ChangeMaps (open_string shut_string)
set_option linter.unusedVariables false
/-- What the row lists, where the program's own initialisers have run. -/
theorem door_met (os : Os) (args : Array Value) : laidMetH Tryd.prog Rows.glushUnitsRow.laid ((World.doorLaid Tryd.prog 400 os).forCall (fun _ _ => 0) ⟨#[], args, []⟩).memory :=
 laidMetH_of_parts3 (fuel := 8) (laidMet_of_run' 8 (by kernel_rfl) (by kernel_rfl)) (by kernel_rfl) (by kernel_rfl)
theorem own : ownKnob Tryd.prog.godebug = none := by kernel_rfl
theorem laidOut : laidOutB Tryd.prog = true := by kernel_rfl
set_option maxRecDepth 100000 in
theorem lifted (os : Os) (started : os.Started) (H : Type) (enc : TypeId × Value → H) :
  ReturnsInHanded {} Tryd.checked os 4 .any (fun w args => (Rows.glushUnitsSpec.pre enc Tryd.prog Tryd.f4 Rows.glushUnitsRow.domain false w args ∧ laidMetH Tryd.prog Rows.glushUnitsRow.laid w) ∧ sizedMet enc Tryd.prog Tryd.f4 (OpenSpec.ofChange Rows.glushUnitsSpec) false w args) (Rows.glushUnitsSpec.post enc Tryd.prog Tryd.f4 false true false false) := by
 refine returnsInHanded_of_change_and (C := Tryd.checked) (X := fun w _ => laidMetH Tryd.prog Rows.glushUnitsRow.laid w) (fun _ _ _ hh h => h.of_heap hh) own started (by kernel_rfl) Tryd.func4
  (ChangeSpec.witness_shaped (enc := enc) (C := Tryd.checked) (os := os) (X := fun w _ => laidMetH Tryd.prog Rows.glushUnitsRow.laid w) false (World.doorLaid Tryd.prog 400 os) #[.agg #[.int .i64 0, .int .i64 0, .int .i64 0, .int .i64 0, .slice none 0 0], .slice none 0 0] 8 rfl (World.shaped_of_RefB (by kernel_rfl) (by kernel_rfl)) (by kernel_rfl) (by kernel_rfl) (by kernel_rfl) (door_met os _)) ?_
 intro W base args ds gs before hval0 hW hcnd hsz0 hlaid _
 have hval : ∀ (j : Nat) t v, Tryd.f4.params[j]? = some t → args[j]? = some v → Value.okWide Tryd.prog W .any base t v := hval0
 have hW' := hW
 obtain ⟨p, q, hA0, hV, rfl, hfz, hnd⟩ := hW
 have hA : DataW.TrodAll enc Tryd.prog W 0 (fun _ => true) true Tryd.f4.params.toList args.toList ds p := hA0
 rw [Tryd.params4] at hA hval
 obtain ⟨v0, vs0, d0, ds0, p0, q0, hargs, rfl, rfl, h0, r0⟩ := trodAll_cons hA
 obtain ⟨v1, vs1, d1, ds1, p1, q1, rfl, rfl, rfl, h1, r1⟩ := trodAll_cons r0
 obtain ⟨rfl, rfl, rfl⟩ := trodAll_nil r1
 obtain rfl : args = #[v0, v1] := by cases args; simp_all
 obtain ⟨rfl, rfl⟩ := trodVars_none hV
 have k0 := h0
 have lt0 : ∀ x ∈ p0, x.block < W.heap.size := by obtain ⟨m, hm⟩ := k0; exact DataW.trod_lt m _ _ _ hm
 obtain ⟨e0, A0, c0, rfl, w0⟩ := G.open_E (hval 0 24 v0 rfl rfl) h0
 have k1 := h1
 have lt1 : ∀ x ∈ p1, x.block < W.heap.size := by obtain ⟨m, hm⟩ := k1; exact DataW.trod_lt m _ _ _ hm
 obtain ⟨e1, A1, c1, rfl, w1, y1⟩ := G.open_I (hval 1 25 v1 rfl rfl) h1
 clear hA0 hval0 hsz0
 refine (G.units_calls W e0 A0 c0 e1 A1 c1 (G.htab_u hlaid) w0 w1 y1).mono fun e W' ⟨he, bel⟩ => ?_
 subst he
 exact ⟨_, rfl, _, _, _, [], _, [], hW', trodAll_mk1 (shut_bool Tryd.underlying4 _), (trodAll_cons_mk (Below.trod laidOut (by kernel_rfl) (of_decide_eq_true (by kernel_rfl)) k0 bel lt0) (trodAll_cons_mk (Below.trod laidOut (by kernel_rfl) (of_decide_eq_true (by kernel_rfl)) k1 bel lt1) trodAll_mk0)), rfl, bel.frame _, fun h => by cases h⟩
theorem over : Rows.glushUnitsRow.holds Tryd.pinned (OpenSpec.ofChange Rows.glushUnitsSpec) :=
 OpenClaim.holds_of_wide 4 Tryd.f4 rfl rfl rfl rfl rfl rfl rfl ⟨rfl, rfl, rfl, rfl, rfl⟩ rfl rfl rfl rfl rfl (by kernel_rfl) Tryd.func4 (by kernel_rfl)
  (of_decide_eq_true (by kernel_rfl)) (by unfold Func.isWrapper; first | (rw [if_pos (by decide +kernel)]; kernel_rfl) | (rw [if_neg (by decide +kernel)]; exact ⟨rfl, rfl⟩))
  (fun os started H enc _ => lifted os started H enc)
theorem proved : Rows.GlushUnitsSaid := over
#print axioms proved
end Go.Proofs.YthocjdlcopmhiaaDoor.glushUnits
namespace Go.Proofs.YthocjdlcopmhiaaDoor
open Go
set_option maxRecDepth 100000
/-- The tied card. -/
theorem glushUnits_holds : Rows.GlushUnitsCardSaid :=
 Claim7.holds_tied_plain_at .later [] [.data] true (true, "33265afb1574f522300e133e4aac569e646b084d8165b5cd2c39f02c8bc15e09") false
  glushUnits.proved (fun _ h => by cases h) (by kernel_rfl) (fun _ h => by cases h) glushUnits_row_tie rfl ⟨rfl, rfl⟩ (by kernel_rfl) rfl
  (fun f fn hf hfn => by
   obtain rfl : f = 4 := Option.some.inj ((show Tryd.prog.funcNamed "rubric/rubriclaw9.GlushUnits" = some 4 by kernel_rfl).symm.trans hf) |>.symm
   obtain rfl : fn = Tryd.f4 := (Option.some.inj (Tryd.func4.symm.trans hfn)).symm
   exact ⟨by kernel_rfl, fun j t ht => by
    rw [Tryd.params4] at ht
    have hm := Array.mem_of_getElem? ht
    have hall : true = true := by kernel_rfl
    have h9 : ∀ q ∈ (#[24, 25] : Array Nat), Tryd.prog.wantsStandIn q = false := by
     intro q hq
     simp only [List.mem_toArray, List.mem_cons, List.not_mem_nil, or_false] at hq
     rcases hq with rfl | rfl
     all_goals kernel_rfl
    exact h9 t hm⟩)
  (by kernel_rfl)
#print axioms glushUnits_holds
end Go.Proofs.YthocjdlcopmhiaaDoor
