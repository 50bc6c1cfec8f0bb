import Derived.Test.YtnafjabpkbahdaaDoorB2
import Derived.Test.YtnafjabpkbahdaaDoorB3
import Derived.Test.YtnafjabpkbahdaaDoorPrx5
namespace Go.Proofs.YtnafjabpkbahdaaDoor.B
open Go.RowKit Go.Proofs.YtnafjabpkbahdaaDoor Go.Proofs.YtnafjabpkbahdaaDoor.G Go.Proofs.YtnafjabpkbahdaaDoor.Pr Go.Proofs.YtnafjabpkbahdaaDoorW.PrintWords Go.Proofs.YtnafjabpkbahdaaDoorW.PrintLast
set_option linter.unusedVariables false
set_option linter.unusedSimpArgs false
theorem known_ev : Ev (fun k => rubriclaw5_known.f k) true := Ev.of rubriclaw5_known.mono (k := 40) (by kernel_rfl)
theorem neg_eq {n : Bool} {l : List Int} {s : Nat} (S : Nat) (h : Can n l s) (hl : l.length ≤ 1048576) : ∃ n' : Bool, dec_Neg.f n l (s : Int) = some (n', l, (s : Int)) ∧ Can n' l s ∧ vl S n' l s = - vl S n l s := by
  have hc : slices_Clone_byte_byte.f l = some l := by unfold slices_Clone_byte_byte.f; rw [if_pos (by omega)]
  cases n with
  | true =>
    refine ⟨false, ?_, ⟨h.dg, h.lt, h.tail, h.head, fun h => by cases h⟩, ?_⟩
    · unfold dec_Neg.f
      rw [if_pos rfl, hc]
      rfl
    · simp [vl]
  | false =>
    cases hz : l.all (· == 0) with
    | false =>
      refine ⟨true, ?_, ⟨h.dg, h.lt, h.tail, h.head, fun _ => not_all (by rw [hz]; rfl)⟩, ?_⟩
      · unfold dec_Neg.f dec_zero.f
        rw [if_neg (by decide), hc, hz]
        rfl
      · simp [vl]
    | true =>
      refine ⟨false, ?_, h, ?_⟩
      · unfold dec_Neg.f dec_zero.f
        rw [if_neg (by decide), hc, hz]
        rfl
      · have : mag S l s = 0 := by
          unfold mag
          rw [rv_of_zero (fun x hx => all_zero hz x (by simpa using hx)), Int.mul_zero]
        simp [vl, this]
theorem Ev_succ {α : Type} {g : Nat → Option α} {r : α} (h : Ev (fun k => g (k + 1)) r) : Ev g r := Ev.step (fun _ => rfl) h

end Go.Proofs.YtnafjabpkbahdaaDoor.B
