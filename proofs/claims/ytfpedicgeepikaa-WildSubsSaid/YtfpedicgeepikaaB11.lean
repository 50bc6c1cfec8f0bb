import Derived.Test.YtfpedicgeepikaaB10
namespace Go.Proofs.Ytfpedicgeepikaa.B
open Go.RowKit Go.Proofs.Ytfpedicgeepikaa Go.Proofs.Ytfpedicgeepikaa.G Go.Proofs.Ytfpedicgeepikaa.Pr Go.Proofs.YtfpedicgeepikaaW.PrintWords Go.Proofs.YtfpedicgeepikaaW.PrintLast
set_option linter.unusedVariables false
set_option linter.unusedSimpArgs false
theorem compact_const {α : Type} [Inhabited α] [DecidableEq α] (x : α) (zs : List α) (h : ∀ y, y ∈ zs → y = x) (h0 : zs ≠ []) : Lib.compact zs = [x] := by
  have hl : 0 < zs.length := List.length_pos_iff.2 h0
  have hget : ∀ j, j < zs.length → zs.toArray[j]! = x := fun j hj => by
    rw [getElem!_pos _ j (by simpa using hj)]
    exact h _ (by simp)
  have key : ∀ m, m < zs.length → Lib.compactUpTo zs.toArray (m + 1) = [x] := by
    intro m
    induction m with
    | zero =>
      intro hm
      rw [Lib.compactUpTo_succ, if_pos (Lib.keeps_lt_one _ 0 (by omega)), hget 0 hm]
      rfl
    | succ m ih =>
      intro hm
      rw [Lib.compactUpTo_succ, ih (by omega), if_neg (by
        rw [Lib.keeps_neg (by omega) (by rw [hget _ hm, hget _ (by omega)])]
        decide)]
      rfl
  unfold Lib.compact
  have := key (zs.length - 1) (by omega)
  rwa [show zs.length - 1 + 1 = zs.length by omega] at this
theorem setL_const (x : ByteArray) (l : List ByteArray) (h : ∀ y, y ∈ l → y = x) (h0 : l ≠ []) : setL l = [x] := by
  unfold setL compL
  have hs : ∀ y, y ∈ (sortL l).map lst → y = lst x := fun y hy => by
    obtain ⟨a, ha, rfl⟩ := List.mem_map.1 hy
    rw [h a ((mem_sortL l a).1 ha)]
  have hne : (sortL l).map lst ≠ [] := by
    intro e
    have := congrArg List.length e
    rw [List.length_map, sortL_length] at this
    exact h0 (List.eq_nil_of_length_eq_zero this)
  rw [compact_const (lst x) _ hs hne]
  simp [mk_lst]

end Go.Proofs.Ytfpedicgeepikaa.B
