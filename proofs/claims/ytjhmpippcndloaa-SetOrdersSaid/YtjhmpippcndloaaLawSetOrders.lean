/- SetOrders: for any ranges and any cut of them: the set of the ranges is the set of them turned about, the union of them one at a time, and the union of the sets of both parts; and it is the set of itself. Conditions: the slice that comes in is one that Go's memory can hold. -/
import Derived.Test.YtjhmpippcndloaaRows
import Derived.Test.YtjhmpippcndloaaPrx11
import Derived.Test.YtjhmpippcndloaaB8
import Derived.Test.YtjhmpippcndloaaB7
import Derived.WalkKit
import Derived.ProofKit
import Derived.OpenShut
import Derived.ShutString
import Derived.ChangeOld
import Derived.Below
import Derived.SizedLaws
namespace Go.Proofs.Ytjhmpippcndloaa.setOrders
open Go.ChangeShapes Go.WideShapes Go.ChangeAt Go.RowKit
open Go.Proofs.YtjhmpippcndloaaW.PrintWords
set_option linter.unusedVariables false
theorem own : ownKnob Try.prog.godebug = none := by kernel_rfl
theorem laidOut : laidOutB Try.prog = true := by kernel_rfl
set_option maxRecDepth 100000 in
theorem lifted (os : Os) (started : os.Started) (H : Type) (enc : TypeId × Value → H) :
    ReturnsInHanded {} Try.checked os 4 .any (Rows.setOrdersSpec.pre6 enc Try.prog Try.f4 Rows.setOrdersRow.domain false) (Rows.setOrdersSpec.post enc Try.prog Try.f4 false true false false) := by
  refine returnsInHanded_of_change_sized (C := Try.checked) own started (by kernel_rfl) Try.func4
    (ChangeSpec.witness6 (enc := enc) (C := Try.checked) false ⟨#[], #[.slice none 0 0, .int .i64 0], []⟩ 8 (by kernel_rfl) (by kernel_rfl) (by kernel_rfl) (by kernel_rfl)) ?_
  intro W base args ds gs before hval0 hW hcnd hsz0 _
  have hval : ∀ (j : Nat) t v, Try.f4.params[j]? = some t → args[j]? = some v → Value.okWide Try.prog W .any base t v := hval0
  have hW' := hW
  obtain ⟨p, q, hA0, hV, rfl, hfz, hnd⟩ := hW
  have hA : DataW.TrodAll enc Try.prog W 0 (fun _ => true) true Try.f4.params.toList args.toList ds p := hA0
  rw [Try.params4] at hA hval
  obtain ⟨v0, vs0, d0, ds0, p0, q0, hargs, rfl, rfl, h0, r0⟩ := trodAll_cons hA
  obtain ⟨v1, vs1, d1, ds1, p1, q1, rfl, rfl, rfl, h1, r1⟩ := trodAll_cons r0
  obtain ⟨rfl, rfl, rfl⟩ := trodAll_nil r1
  obtain rfl : args = #[v0, v1] := by cases args; simp_all
  obtain ⟨rfl, rfl⟩ := trodVars_none hV
  have k0 := h0
  have lt0 : ∀ x ∈ p0, x.block < W.heap.size := by obtain ⟨m, hm⟩ := k0; exact DataW.trod_lt m _ _ _ hm
  have k1 := h1
  have lt1 : ∀ x ∈ p1, x.block < W.heap.size := by obtain ⟨m, hm⟩ := k1; exact DataW.trod_lt m _ _ _ hm
  obtain ⟨A0, c0, l0, e0, hr0, hc0⟩ := B.open_rngs (hval 0 25 v0 rfl rfl) h0
  obtain ⟨a1, e1, -, -, w1⟩ := open_int Try.underlying3 (hval 1 3 v1 rfl rfl) h1
  subst e0 e1
  clear hA0 hval0 hsz0
  obtain ⟨k, hk⟩ := (B.orders_ev l0 a1).rounds
  refine (Pr.rubriclaw7_SetOrders.calls k A0 c0 l0 a1 true W hr0 hc0 hk rfl).mono fun e W' ⟨he, bel⟩ => ?_
  subst he
  have sh : ∀ {t : TypeId} (ht : _) (ht2 : _) {v : Value} {d : DataW H} {ps : List MemPlace}, DataW.Trod enc Try.prog W 0 (fun _ => true) true t v d ps → (∀ x ∈ ps, x.block < W.heap.size) → _ := fun {t} ht ht2 {v d ps} k lt => Below.trod (t := t) laidOut ht ht2 k bel lt
  exact ⟨_, rfl, _, _, _, [], _, [], hW', trodAll_mk1 (shut_bool Try.underlying4 _), (trodAll_cons_mk (sh (by kernel_rfl) (of_decide_eq_true (by kernel_rfl)) k0 lt0) (trodAll_cons_mk (sh (by kernel_rfl) (of_decide_eq_true (by kernel_rfl)) k1 lt1) trodAll_mk0)), rfl, bel.frame _, fun h => by cases h⟩
theorem over : Rows.setOrdersRow.holds Try.pinned (OpenSpec.ofChange Rows.setOrdersSpec) :=
  OpenClaim.holds_of_wide 4 Try.f4 rfl rfl rfl rfl rfl rfl rfl ⟨rfl, rfl, rfl, rfl, rfl⟩ rfl rfl rfl rfl rfl (by kernel_rfl) Try.func4 (by kernel_rfl)
    (of_decide_eq_true (by kernel_rfl)) (by unfold Func.isWrapper; first | (rw [if_pos (by decide +kernel)]; kernel_rfl) | (rw [if_neg (by decide +kernel)]; exact ⟨rfl, rfl⟩))
    (fun os started H enc _ => lifted os started H enc)
theorem proved : Rows.SetOrdersSaid := over
end Go.Proofs.Ytjhmpippcndloaa.setOrders
namespace Go.Proofs.Ytjhmpippcndloaa
/-- The row, under a short name, for the claim. -/
theorem setOrders_holds : Rows.SetOrdersSaid := setOrders.proved
#print axioms setOrders_holds
end Go.Proofs.Ytjhmpippcndloaa
