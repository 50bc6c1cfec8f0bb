/- SetLaws: for any ranges twice and any letter: a letter is in the union if in one, in both if in each, in less if in the first alone, in the opposite if not in it; sizes add up; the opposite's opposite is the set. Conditions: the slices that come in are ones that Go's memory can hold. -/
import Derived.Test.YtjhmpippcndloaaRows
import Derived.Test.YtjhmpippcndloaaPrx9
import Derived.Test.YtjhmpippcndloaaB6
import Derived.Test.YtjhmpippcndloaaB7
import Derived.WalkKit
import Derived.ProofKit
import Derived.OpenShut
import Derived.ShutString
import Derived.ChangeOld
import Derived.Below
import Derived.SizedLaws
namespace Go.Proofs.Ytjhmpippcndloaa.setLaws
open Go.ChangeShapes Go.WideShapes Go.ChangeAt Go.RowKit
open Go.Proofs.YtjhmpippcndloaaW.PrintWords
set_option linter.unusedVariables false
theorem own : ownKnob Try.prog.godebug = none := by kernel_rfl
theorem laidOut : laidOutB Try.prog = true := by kernel_rfl
set_option maxRecDepth 100000 in
theorem lifted (os : Os) (started : os.Started) (H : Type) (enc : TypeId × Value → H) :
    ReturnsInHanded {} Try.checked os 6 .any (Rows.setLawsSpec.pre6 enc Try.prog Try.f6 Rows.setLawsRow.domain false) (Rows.setLawsSpec.post enc Try.prog Try.f6 false true false false) := by
  refine returnsInHanded_of_change_sized (C := Try.checked) own started (by kernel_rfl) Try.func6
    (ChangeSpec.witness6 (enc := enc) (C := Try.checked) false ⟨#[], #[.slice none 0 0, .slice none 0 0, .int .i32 0], []⟩ 8 (by kernel_rfl) (by kernel_rfl) (by kernel_rfl) (by kernel_rfl)) ?_
  intro W base args ds gs before hval0 hW hcnd hsz0 _
  have hval : ∀ (j : Nat) t v, Try.f6.params[j]? = some t → args[j]? = some v → Value.okWide Try.prog W .any base t v := hval0
  have hW' := hW
  obtain ⟨p, q, hA0, hV, rfl, hfz, hnd⟩ := hW
  have hA : DataW.TrodAll enc Try.prog W 0 (fun _ => true) true Try.f6.params.toList args.toList ds p := hA0
  rw [Try.params6] at hA hval
  obtain ⟨v0, vs0, d0, ds0, p0, q0, hargs, rfl, rfl, h0, r0⟩ := trodAll_cons hA
  obtain ⟨v1, vs1, d1, ds1, p1, q1, rfl, rfl, rfl, h1, r1⟩ := trodAll_cons r0
  obtain ⟨v2, vs2, d2, ds2, p2, q2, rfl, rfl, rfl, h2, r2⟩ := trodAll_cons r1
  obtain ⟨rfl, rfl, rfl⟩ := trodAll_nil r2
  obtain rfl : args = #[v0, v1, v2] := by cases args; simp_all
  obtain ⟨rfl, rfl⟩ := trodVars_none hV
  have k0 := h0
  have lt0 : ∀ x ∈ p0, x.block < W.heap.size := by obtain ⟨m, hm⟩ := k0; exact DataW.trod_lt m _ _ _ hm
  have k1 := h1
  have lt1 : ∀ x ∈ p1, x.block < W.heap.size := by obtain ⟨m, hm⟩ := k1; exact DataW.trod_lt m _ _ _ hm
  have k2 := h2
  have lt2 : ∀ x ∈ p2, x.block < W.heap.size := by obtain ⟨m, hm⟩ := k2; exact DataW.trod_lt m _ _ _ hm
  obtain ⟨A0, c0, l0, e0, hr0, hc0⟩ := B.open_rngs (hval 0 25 v0 rfl rfl) h0
  obtain ⟨A1, c1, l1, e1, hr1, hc1⟩ := B.open_rngs (hval 1 25 v1 rfl rfl) h1
  obtain ⟨a2, e2, -, -, w2⟩ := open_int Try.underlying21 (hval 2 21 v2 rfl rfl) h2
  subst e0 e1 e2
  clear hA0 hval0 hsz0
  obtain ⟨k, hk⟩ := (B.laws_ev l0 l1 a2).rounds
  refine (Pr.rubriclaw7_SetLaws.calls k A0 c0 l0 A1 c1 l1 a2 true W hr0 hc0 hr1 hc1 hk rfl).mono fun e W' ⟨he, bel⟩ => ?_
  subst he
  have sh : ∀ {t : TypeId} (ht : _) (ht2 : _) {v : Value} {d : DataW H} {ps : List MemPlace}, DataW.Trod enc Try.prog W 0 (fun _ => true) true t v d ps → (∀ x ∈ ps, x.block < W.heap.size) → _ := fun {t} ht ht2 {v d ps} k lt => Below.trod (t := t) laidOut ht ht2 k bel lt
  exact ⟨_, rfl, _, _, _, [], _, [], hW', trodAll_mk1 (shut_bool Try.underlying4 _), (trodAll_cons_mk (sh (by kernel_rfl) (of_decide_eq_true (by kernel_rfl)) k0 lt0) (trodAll_cons_mk (sh (by kernel_rfl) (of_decide_eq_true (by kernel_rfl)) k1 lt1) (trodAll_cons_mk (sh (by kernel_rfl) (of_decide_eq_true (by kernel_rfl)) k2 lt2) trodAll_mk0))), rfl, bel.frame _, fun h => by cases h⟩
theorem over : Rows.setLawsRow.holds Try.pinned (OpenSpec.ofChange Rows.setLawsSpec) :=
  OpenClaim.holds_of_wide 6 Try.f6 rfl rfl rfl rfl rfl rfl rfl ⟨rfl, rfl, rfl, rfl, rfl⟩ rfl rfl rfl rfl rfl (by kernel_rfl) Try.func6 (by kernel_rfl)
    (of_decide_eq_true (by kernel_rfl)) (by unfold Func.isWrapper; first | (rw [if_pos (by decide +kernel)]; kernel_rfl) | (rw [if_neg (by decide +kernel)]; exact ⟨rfl, rfl⟩))
    (fun os started H enc _ => lifted os started H enc)
theorem proved : Rows.SetLawsSaid := over
end Go.Proofs.Ytjhmpippcndloaa.setLaws
namespace Go.Proofs.Ytjhmpippcndloaa
/-- The row, under a short name, for the claim. -/
theorem setLaws_holds : Rows.SetLawsSaid := setLaws.proved
#print axioms setLaws_holds
end Go.Proofs.Ytjhmpippcndloaa
