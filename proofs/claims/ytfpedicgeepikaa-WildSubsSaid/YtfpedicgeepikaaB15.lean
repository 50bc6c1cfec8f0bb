import Derived.Test.YtfpedicgeepikaaB14
namespace Go.Proofs.Ytfpedicgeepikaa.B
open Go.RowKit Go.Proofs.Ytfpedicgeepikaa Go.Proofs.Ytfpedicgeepikaa.G Go.Proofs.Ytfpedicgeepikaa.Pr Go.Proofs.YtfpedicgeepikaaW.PrintWords Go.Proofs.YtfpedicgeepikaaW.PrintLast
set_option linter.unusedVariables false
set_option linter.unusedSimpArgs false
theorem ll_irrefl (a : List UInt8) : ¬ a < a := List.lt_irrefl a
theorem ll_trans {a b c : List UInt8} (h : a < b) (h2 : b < c) : a < c := List.lt_trans h h2
theorem ll_lt_of_le_of_ne {a b : List UInt8} (h : a ≤ b) (hn : a ≠ b) : a < b := by
  rcases List.le_iff_lt_or_eq.1 h with h | h
  · exact h
  · exact absurd h hn
theorem ll_le_trans {a b c : List UInt8} (h : a ≤ b) (h2 : b ≤ c) : a ≤ c := List.le_trans h h2
theorem ll_lt_of_le_of_lt {a b c : List UInt8} (h : a ≤ b) (h2 : b < c) : a < c := by
  rcases List.le_iff_lt_or_eq.1 h with h | h
  · exact ll_trans h h2
  · rw [h]; exact h2
theorem upTo_sorted (d : Array (List UInt8)) (hs : ∀ i j, i < j → j < d.size → d[i]! ≤ d[j]!) : ∀ m, m ≤ d.size → (Lib.compactUpTo d m).Pairwise (· < ·)
  | 0, _ => by simp [Lib.compactUpTo]
  | m + 1, hm => by
    rw [Lib.compactUpTo_succ]
    split
    · rename_i hk
      rw [List.pairwise_append]
      refine ⟨upTo_sorted d hs m (by omega), List.pairwise_singleton _ _, fun a ha b hb => ?_⟩
      rw [List.mem_singleton.1 hb]
      obtain ⟨j, hj, rfl⟩ := (mem_upTo d a m).1 ha
      have hne : d[m - 1]! ≠ d[m]! := by
        intro e
        rw [Lib.keeps_neg (by omega) e.symm] at hk
        cases hk
      have h1 : d[m - 1]! < d[m]! := ll_lt_of_le_of_ne (hs (m - 1) m (by omega) (by omega)) hne
      by_cases hj2 : j = m - 1
      · rw [hj2]; exact h1
      · exact ll_lt_of_le_of_lt (hs j (m - 1) (by omega) (by omega)) h1
    · rw [List.append_nil]
      exact upTo_sorted d hs m (by omega)
theorem compact_sorted (zs : List (List UInt8)) (h : zs.Pairwise (· ≤ ·)) : (Lib.compact zs).Pairwise (· < ·) := by
  unfold Lib.compact
  refine upTo_sorted _ (fun i j hij hj => ?_) _ (by simp)
  have hj' : j < zs.length := by simpa using hj
  rw [getElem!_pos _ i (by omega), getElem!_pos _ j hj]
  have := List.pairwise_iff_getElem.1 h i j (by omega) hj' hij
  simpa using this
theorem setL_sorted (l : List ByteArray) : ((setL l).map lst).Pairwise (· < ·) := by
  unfold setL compL
  rw [List.map_map]
  have e : (lst ∘ mkB) = id := by funext x; exact lst_mk x
  rw [e, List.map_id]
  apply compact_sorted
  unfold sortL
  rw [List.map_map, e, List.map_id]
  have := List.pairwise_mergeSort (le := fun x y : List UInt8 => decide (x ≤ y)) (fun a b c h1 h2 => by
    simp only [decide_eq_true_iff] at *
    exact ll_le_trans h1 h2) (fun a b => by
    simp only [Bool.or_eq_true, decide_eq_true_iff]
    exact List.le_total a b) (l.map lst)
  exact this.imp (fun h => by simpa using h)
theorem sorted_ext : ∀ (a b : List (List UInt8)), a.Pairwise (· < ·) → b.Pairwise (· < ·) → (∀ x, x ∈ a ↔ x ∈ b) → a = b
  | [], [], _, _, _ => rfl
  | [], y :: ys, _, _, h => absurd ((h y).2 List.mem_cons_self) (by simp)
  | x :: xs, [], _, _, h => absurd ((h x).1 List.mem_cons_self) (by simp)
  | x :: xs, y :: ys, ha, hb, h => by
    rw [List.pairwise_cons] at ha hb
    have hxy : x = y := by
      rcases List.mem_cons.1 ((h x).1 List.mem_cons_self) with e | h1
      · exact e
      · rcases List.mem_cons.1 ((h y).2 List.mem_cons_self) with e | h2
        · exact e.symm
        · exact absurd (ll_trans (hb.1 x h1) (ha.1 y h2)) (ll_irrefl _)
    subst hxy
    rw [sorted_ext xs ys ha.2 hb.2 (fun z => ⟨fun hz => by
      rcases List.mem_cons.1 ((h z).1 (List.mem_cons_of_mem _ hz)) with e | h1
      · rw [e] at hz
        exact absurd (ha.1 x hz) (ll_irrefl _)
      · exact h1, fun hz => by
      rcases List.mem_cons.1 ((h z).2 (List.mem_cons_of_mem _ hz)) with e | h1
      · rw [e] at hz
        exact absurd (hb.1 x hz) (ll_irrefl _)
      · exact h1⟩)]
/-- A strictly rising row. -/
def Rising (l : List ByteArray) : Prop := (l.map lst).Pairwise (· < ·)
theorem map_lst_inj : ∀ {a b : List ByteArray}, a.map lst = b.map lst → a = b
  | [], [], _ => rfl
  | [], _ :: _, h => by cases h
  | _ :: _, [], h => by cases h
  | x :: xs, y :: ys, h => by
    rw [List.map_cons, List.map_cons] at h
    rw [lst_inj (List.cons.inj h).1, map_lst_inj (List.cons.inj h).2]
theorem rising_ext {a b : List ByteArray} (ha : Rising a) (hb : Rising b) (h : ∀ x, x ∈ a ↔ x ∈ b) : a = b := by
  refine map_lst_inj (sorted_ext _ _ ha hb (fun x => ?_))
  rw [← lst_mk x, mem_lst, mem_lst]
  exact h _
theorem rising_setL (l : List ByteArray) : Rising (setL l) := setL_sorted l
theorem rising_filter {l : List ByteArray} (h : Rising l) (p : ByteArray → Bool) : Rising (l.filter p) := by
  unfold Rising at *
  exact h.sublist (List.filter_sublist.map lst)
theorem setL_of_rising {l : List ByteArray} (h : Rising l) : setL l = l := rising_ext (rising_setL l) h (mem_setL l)

end Go.Proofs.Ytfpedicgeepikaa.B
