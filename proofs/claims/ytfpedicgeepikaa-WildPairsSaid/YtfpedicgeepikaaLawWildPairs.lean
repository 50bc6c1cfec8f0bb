/- WildPairs: for any two wildcards and any space: both readings tell alike whether a wildcard is right; of right ones: whether the space is allowed, one within the other, the same, what both and what one of them allows; the run ends and tells true. Conditions: the wildcards that come in are values that Go's memory can hold. -/
import Derived.Test.YtfpedicgeepikaaRows
import Derived.Test.YtfpedicgeepikaaM3
import Derived.WalkKit
import Derived.ProofKit
import Derived.OpenShut
import Derived.ShutString
import Derived.ChangeOld
import Derived.Below
import Derived.SizedLaws
import Derived.SliceStrings
import Derived.Lib.SmallJoins
namespace Go.Proofs.Ytfpedicgeepikaa.wildPairs
open Go.ChangeShapes Go.WideShapes Go.ChangeAt Go.RowKit
open Go.Proofs.YtfpedicgeepikaaW.PrintWords
open Go.ChangeMaps (open_string shut_string)
set_option linter.unusedVariables false
theorem own : ownKnob Try.prog.godebug = none := by kernel_rfl
theorem laidOut : laidOutB Try.prog = true := by kernel_rfl
theorem cells26 : Try.prog.cellsOf 26 = 4 := by kernel_rfl
/-- A wildcard that comes in, opened. -/
theorem open_wild {H : Type} {enc : TypeId × Value → H} {W : World} {r : Reach} {v : Value} {d : DataW H} {p : List MemPlace} {base b0 : Nat} {held : Bool} (hv : Value.okWide Try.prog W r b0 26 v) (h : DataW.Trod enc Try.prog W base (fun _ => true) held 26 v d p) :
    ∃ (x0 : Int) (x1 : ByteArray) (A : Option Addr) (c : Nat) (l : List ByteArray) (x3 : Int), v = .agg #[.int .i64 x0, .string x1, .slice A l.length c, .int .i64 x3] ∧ Kd.C Kd.string W A l.length l ∧ l.length ≤ c := by
  obtain ⟨v0, v1, v2, v3, y0, y1, y2, y3, n, rfl, -, -, h0, h1, h2, h3⟩ := Joins.open_agg4 Try.underlying26 (by kernel_rfl) cells26 hv h
  obtain ⟨x0, e0, -, -⟩ := DataW.trod_int Try.underlying3 h0
  obtain ⟨x1, e1, -, -⟩ := DataW.trod_string Try.underlying9 h1
  obtain ⟨x3, e3, -, -⟩ := DataW.trod_int Try.underlying3 h3
  obtain rfl := (List.cons.inj e0).1
  obtain rfl := (List.cons.inj e1).1
  obtain rfl := (List.cons.inj e3).1
  rcases open_strings Try.underlying24 Try.underlying9 (by kernel_rfl) h2 with ⟨e2, _⟩ | ⟨a, len, cap, ss, e2, _, hl, hm, hlen, _, hcell, _⟩
  · obtain rfl := (List.cons.inj e2).1
    exact ⟨x0, x1, none, 0, [], x3, rfl, Kd.C_nil _ _, Nat.le_refl _⟩
  · obtain rfl := (List.cons.inj e2).1
    have hlen' : ss.length = cap := by simpa using hlen
    have hll : (ss.take len).length = len := by rw [List.length_take]; omega
    refine ⟨x0, x1, some a, cap, ss.take len, x3, by rw [hll], ?_, by rw [hll]; exact hl⟩
    refine Kd.C_of_reads (d := ByteArray.empty) (h1 := fun _ => rfl) ⟨rfl, by rw [hll]; unfold maxLen at hm; omega, fun _ => ⟨a, rfl, fun j hj => ?_⟩⟩
    rw [hll] at hj
    have := hcell j (by omega)
    rw [this]
    congr 2
    rw [List.getD_eq_getElem?_getD, List.getD_eq_getElem?_getD, List.getElem?_take_of_lt hj]
set_option maxRecDepth 100000 in
theorem lifted (os : Os) (started : os.Started) (H : Type) (enc : TypeId × Value → H) :
    ReturnsInHanded {} Try.checked os 5 .any (Rows.wildPairsSpec.pre6 enc Try.prog Try.f5 Rows.wildPairsRow.domain false) (Rows.wildPairsSpec.post enc Try.prog Try.f5 false true false false) := by
  refine returnsInHanded_of_change_sized (C := Try.checked) own started (by kernel_rfl) Try.func5
    (ChangeSpec.witness6 (enc := enc) (C := Try.checked) false ⟨#[], #[.agg #[.int .i64 0, .string ⟨#[]⟩, .slice none 0 0, .int .i64 0], .agg #[.int .i64 0, .string ⟨#[]⟩, .slice none 0 0, .int .i64 0], .string ⟨#[]⟩], []⟩ 8 (by kernel_rfl) (by kernel_rfl) (by kernel_rfl) (by kernel_rfl)) ?_
  intro W base args ds gs before hval0 hW hcnd hsz0 _
  have hval : ∀ (j : Nat) t v, Try.f5.params[j]? = some t → args[j]? = some v → Value.okWide Try.prog W .any base t v := hval0
  have hW' := hW
  obtain ⟨p, q, hA0, hV, rfl, hfz, hnd⟩ := hW
  have hA : DataW.TrodAll enc Try.prog W 0 (fun _ => true) true Try.f5.params.toList args.toList ds p := hA0
  rw [Try.params5] at hA hval
  obtain ⟨v0, vs0, d0, ds0, p0, q0, hargs, rfl, rfl, h0, r0⟩ := trodAll_cons hA
  obtain ⟨v1, vs1, d1, ds1, p1, q1, rfl, rfl, rfl, h1, r1⟩ := trodAll_cons r0
  obtain ⟨v2, vs2, d2, ds2, p2, q2, rfl, rfl, rfl, h2, r2⟩ := trodAll_cons r1
  obtain ⟨rfl, rfl, rfl⟩ := trodAll_nil r2
  obtain rfl : args = #[v0, v1, v2] := by cases args; simp_all
  obtain ⟨rfl, rfl⟩ := trodVars_none hV
  have k0 := h0
  have lt0 : ∀ x ∈ p0, x.block < W.heap.size := by obtain ⟨m, hm⟩ := k0; exact DataW.trod_lt m _ _ _ hm
  have k1 := h1
  have lt1 : ∀ x ∈ p1, x.block < W.heap.size := by obtain ⟨m, hm⟩ := k1; exact DataW.trod_lt m _ _ _ hm
  obtain ⟨a0, a1, A0, c0, l0, a3, e0, hr0, hc0⟩ := open_wild (hval 0 26 v0 rfl rfl) h0
  obtain ⟨b0, b1, A1, c1, l1, b3, e1, hr1, hc1⟩ := open_wild (hval 1 26 v1 rfl rfl) h1
  obtain ⟨s, rfl, rfl, rfl, y2⟩ := open_string Try.underlying9 (hval 2 9 v2 rfl rfl) h2
  subst e0 e1
  clear hA0 hval0 hsz0
  refine (B.pairs_true a0 a1 A0 c0 l0 a3 b0 b1 A1 c1 l1 b3 s W ⟨hr0, hc0⟩ ⟨hr1, hc1⟩).mono fun e W' ⟨he, bel⟩ => ?_
  subst he
  have sh : ∀ {v : Value} {d : DataW H} {ps : List MemPlace}, DataW.Trod enc Try.prog W 0 (fun _ => true) true 26 v d ps → (∀ x ∈ ps, x.block < W.heap.size) → _ := fun k lt => Below.trod laidOut (by kernel_rfl) (of_decide_eq_true (by kernel_rfl)) k bel lt
  exact ⟨_, rfl, _, _, _, [], _, [], hW', trodAll_mk1 (shut_bool Try.underlying4 _), (trodAll_cons_mk (sh k0 lt0) (trodAll_cons_mk (sh k1 lt1) (trodAll_cons_mk (shut_string Try.underlying9 y2) trodAll_mk0))), rfl, bel.frame _, fun h => by cases h⟩
theorem over : Rows.wildPairsRow.holds Try.pinned (OpenSpec.ofChange Rows.wildPairsSpec) :=
  OpenClaim.holds_of_wide 5 Try.f5 rfl rfl rfl rfl rfl rfl rfl ⟨rfl, rfl, rfl, rfl, rfl⟩ rfl rfl rfl rfl rfl (by kernel_rfl) Try.func5 (by kernel_rfl)
    (of_decide_eq_true (by kernel_rfl)) (by unfold Func.isWrapper; first | (rw [if_pos (by decide +kernel)]; kernel_rfl) | (rw [if_neg (by decide +kernel)]; exact ⟨rfl, rfl⟩))
    (fun os started H enc _ => lifted os started H enc)
theorem proved : Rows.WildPairsSaid := over
end Go.Proofs.Ytfpedicgeepikaa.wildPairs
namespace Go.Proofs.Ytfpedicgeepikaa
/-- The row, under a short name, for the claim. -/
theorem wildPairs_holds : Rows.WildPairsSaid := wildPairs.proved
#print axioms wildPairs_holds
end Go.Proofs.Ytfpedicgeepikaa
