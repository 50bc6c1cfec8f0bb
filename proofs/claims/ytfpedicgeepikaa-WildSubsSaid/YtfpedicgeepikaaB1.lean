import Derived.Test.YtfpedicgeepikaaG4
import Derived.Test.YtfpedicgeepikaaG8
namespace Go.Proofs.Ytfpedicgeepikaa.B
open Go.RowKit Go.Proofs.Ytfpedicgeepikaa Go.Proofs.Ytfpedicgeepikaa.G Go.Proofs.Ytfpedicgeepikaa.Pr Go.Proofs.YtfpedicgeepikaaW.PrintWords Go.Proofs.YtfpedicgeepikaaW.PrintLast
set_option linter.unusedVariables false
set_option linter.unusedSimpArgs false
theorem mem_upTo {α : Type} [Inhabited α] [DecidableEq α] (d : Array α) (x : α) : ∀ m, x ∈ Lib.compactUpTo d m ↔ ∃ j, j < m ∧ d[j]! = x
  | 0 => by simp [Lib.compactUpTo]
  | m + 1 => by
    rw [Lib.compactUpTo_succ, List.mem_append, mem_upTo d x m]
    constructor
    · rintro (⟨j, hj, e⟩ | h)
      · exact ⟨j, by omega, e⟩
      · split at h
        · exact ⟨m, by omega, (List.mem_singleton.1 h).symm⟩
        · cases h
    · rintro ⟨j, hj, e⟩
      by_cases hm : j < m
      · exact .inl ⟨j, hm, e⟩
      · obtain rfl : j = m := by omega
        by_cases hk : Lib.keeps d j = true
        · right
          rw [if_pos hk]
          exact List.mem_singleton.2 e.symm
        · left
          have h0 : 0 < j := by
            rcases Nat.eq_zero_or_pos j with h0 | h0
            · exact absurd (Lib.keeps_lt_one d j (by omega)) hk
            · exact h0
          have h1 : d[j]! = d[j - 1]! := by
            by_cases hne : d[j]! = d[j - 1]!
            · exact hne
            · exact absurd (Lib.keeps_pos hne) hk
          exact ⟨j - 1, by omega, by rw [← h1]; exact e⟩
theorem mem_compact {α : Type} [Inhabited α] [DecidableEq α] (zs : List α) (x : α) : x ∈ Lib.compact zs ↔ x ∈ zs := by
  unfold Lib.compact
  rw [mem_upTo]
  constructor
  · rintro ⟨j, hj, e⟩
    rw [getElem!_pos _ j (by simpa using hj)] at e
    rw [← e]
    simp
  · intro h
    obtain ⟨j, hj, e⟩ := List.getElem_of_mem h
    exact ⟨j, hj, by rw [getElem!_pos _ j (by simpa using hj)]; simpa using e⟩
theorem mkB_inj {a b : List UInt8} (h : mkB a = mkB b) : a = b := by rw [← lst_mk a, h, lst_mk]
theorem mem_mkB (l : List (List UInt8)) (x : ByteArray) : x ∈ l.map mkB ↔ lst x ∈ l := by
  rw [List.mem_map]
  constructor
  · rintro ⟨a, ha, rfl⟩
    rwa [lst_mk]
  · intro h
    exact ⟨_, h, mk_lst x⟩
theorem mem_sortL (l : List ByteArray) (x : ByteArray) : x ∈ sortL l ↔ x ∈ l := by
  unfold sortL
  rw [mem_mkB, List.mem_mergeSort, List.mem_map]
  constructor
  · rintro ⟨a, ha, e⟩
    have := congrArg mkB e
    rw [mk_lst, mk_lst] at this
    rwa [← this]
  · intro h
    exact ⟨x, h, rfl⟩
theorem mem_compL (l : List ByteArray) (x : ByteArray) : x ∈ compL l ↔ x ∈ l := by
  unfold compL
  rw [mem_mkB, mem_compact, List.mem_map]
  constructor
  · rintro ⟨a, ha, e⟩
    have := congrArg mkB e
    rw [mk_lst, mk_lst] at this
    rwa [← this]
  · intro h
    exact ⟨x, h, rfl⟩
/-- The spaces of a row: each once, rising. -/
def setL (l : List ByteArray) : List ByteArray := compL (sortL l)
theorem mem_setL (l : List ByteArray) (x : ByteArray) : x ∈ setL l ↔ x ∈ l := by rw [setL, mem_compL, mem_sortL]
theorem setL_length (l : List ByteArray) : (setL l).length ≤ l.length := by
  have := compL_length (sortL l)
  rw [sortL_length] at this
  exact this

end Go.Proofs.Ytfpedicgeepikaa.B
