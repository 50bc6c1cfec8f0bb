import Derived.Test.YtjhmpippcndloaaRows
import Derived.Test.YtjhmpippcndloaaB6
import Derived.Test.YtjhmpippcndloaaPrx0
import Derived.Deep.SlicePairs
import Derived.OpenShut
import Derived.WalkKit
import Derived.ProofKit
namespace Go.Proofs.Ytjhmpippcndloaa.B
open Go.RowKit Go.Proofs.Ytjhmpippcndloaa Go.Proofs.Ytjhmpippcndloaa.G Go.Proofs.Ytjhmpippcndloaa.Pr Go.Proofs.YtjhmpippcndloaaW.PrintWords Go.Proofs.YtjhmpippcndloaaW.PrintLast
set_option linter.unusedVariables false
set_option linter.unusedSimpArgs false
open Go.ChangeShapes Go.WideShapes Go.ChangeAt Go.RowKit
theorem cells24 : Try.prog.cellsOf 24 = 2 := by kernel_rfl
/-- Ranges that come in, opened. -/
theorem open_rngs {H : Type} {enc : TypeId × Value → H} {W : World} {r : Reach} {v : Value} {d : DataW H} {p : List MemPlace} {base b0 : Nat} {held : Bool} (hv : Value.okWide Try.prog W r b0 25 v) (h : DataW.Trod enc Try.prog W base (fun _ => true) held 25 v d p) :
    ∃ (A : Option Addr) (c : Nat) (l : List Pr.S24), v = .slice A l.length c ∧ Kd.C Pr.k24 W A l.length l ∧ l.length ≤ c := by
  obtain ⟨a0, len0, cap0, rfl⟩ := okWide_slice Try.underlying25 hv
  obtain ⟨fuel, hf⟩ := h
  rcases Go.Deep.open_slice_pairs Try.underlying25 Try.underlying24 cells24 rfl rfl (by kernel_rfl) (by kernel_rfl) hf with ⟨e, _⟩ | ⟨a, len, cap, m, n, V0, V1, D0, D1, P0, P1, e, _, hl, hm, hmm, _, hel⟩
  · simp [Value.cells] at e
    obtain ⟨rfl, rfl, rfl⟩ := e
    exact ⟨none, 0, [], rfl, Kd.C_nil _ _, Nat.le_refl _⟩
  · simp [Value.cells] at e
    obtain ⟨rfl, rfl, rfl⟩ := e
    have hm2 : m = cap0 := by simpa using hmm
    subst hm2
    have each : ∀ i, ∃ x : Pr.S24, i < m → W.cell? (a.add (i * 2)) = some (.int .i32 x.f0) ∧ W.cell? (a.add (i * 2 + 1)) = some (.int .i32 x.f1) := by
      intro i
      by_cases hi : i < m
      · obtain ⟨c0, c1, t0, t1⟩ := hel i hi
        obtain ⟨x0, e0, -, -⟩ := DataW.trod_int Try.underlying21 t0
        obtain ⟨x1, e1, -, -⟩ := DataW.trod_int Try.underlying21 t1
        replace e0 := (List.cons.inj e0).1
        replace e1 := (List.cons.inj e1).1
        exact ⟨⟨x0, x1⟩, fun _ => ⟨by rw [c0, e0], by rw [c1, e1]⟩⟩
      · exact ⟨⟨0, 0⟩, fun h => absurd h hi⟩
    have hX := fun i => Classical.choose_spec (each i)
    have hlen : ((List.range len0).map fun i => Classical.choose (each i)).length = len0 := by simp
    refine ⟨some a, m, (List.range len0).map fun i => Classical.choose (each i), by rw [hlen], ⟨rfl, by rw [hlen]; unfold maxLen at hm; omega, fun _ => ⟨a, rfl, fun j p hj => ?_⟩⟩, by rw [hlen]; exact hl⟩
    have hj2 : j < len0 := by
      have := (List.getElem?_eq_some_iff.mp hj).1
      rwa [hlen] at this
    have hp : p = Classical.choose (each j) := by
      rw [List.getElem?_map, List.getElem?_range hj2] at hj
      exact (Option.some.inj hj).symm
    have hc := hX j (Nat.lt_of_lt_of_le hj2 hl)
    rw [← hp] at hc
    refine ⟨[.int .i32 p.f0, .int .i32 p.f1], rfl, Pr.k24_mk W p, fun i u hu => ?_⟩
    match i, hu with
    | 0, hu => cases hu; exact hc.1
    | 1, hu => cases hu; exact hc.2

end Go.Proofs.Ytjhmpippcndloaa.B
