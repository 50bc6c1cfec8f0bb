import Derived.Test.YtfpedicgeepikaaB15
namespace Go.Proofs.Ytfpedicgeepikaa.B
open Go.RowKit Go.Proofs.Ytfpedicgeepikaa Go.Proofs.Ytfpedicgeepikaa.G Go.Proofs.Ytfpedicgeepikaa.Pr Go.Proofs.YtfpedicgeepikaaW.PrintWords Go.Proofs.YtfpedicgeepikaaW.PrintLast
set_option linter.unusedVariables false
set_option linter.unusedSimpArgs false
/-! ### what wildcards allow: Sub, Both, Union by their sets -/
theorem long_word : ∀ L : List ByteArray, ∃ m, ∀ x, x ∈ L → (lst x).length ≤ m
  | [] => ⟨0, fun _ h => by cases h⟩
  | x :: L => by
    obtain ⟨m, hm⟩ := long_word L
    refine ⟨max (lst x).length m, fun y hy => ?_⟩
    rcases List.mem_cons.1 hy with rfl | h
    · exact Nat.le_max_left _ _
    · exact Nat.le_trans (hm y h) (Nat.le_max_right _ _)
theorem fresh_word (L : List ByteArray) : ∃ s : ByteArray, s ∉ L := by
  obtain ⟨m, hm⟩ := long_word L
  refine ⟨mkB (List.replicate (m + 1) 97), fun h => ?_⟩
  have := hm _ h
  rw [lst_mk, List.length_replicate] at this
  omega
theorem allows_far {h : Int} {n : ByteArray} {l : List ByteArray} {s : ByteArray} (h0 : s ≠ ⟨#[]⟩) (h1 : s ∉ l) (h2 : s ≠ n) : allowsP h n l s ↔ h = 1 ∨ h = 2 := by
  unfold allowsP
  by_cases e1 : h = 1
  · simp [e1]
  · by_cases e2 : h = 2
    · simp [e1, e2, h0, h2]
    · simp [e1, e2, h1]
theorem allows_not_special {h : Int} {n : ByteArray} {l : List ByteArray} {h' : Int} {n' : ByteArray} {l' : List ByteArray} {s : ByteArray} (hs : s ∉ specL n l n' l') :
    (allowsP h n l s ↔ h = 1 ∨ h = 2) ∧ (allowsP h' n' l' s ↔ h' = 1 ∨ h' = 2) := by
  rw [mem_specL] at hs
  simp only [not_or] at hs
  exact ⟨allows_far hs.1 hs.2.1 hs.2.2.1, allows_far hs.1 hs.2.2.2.1 hs.2.2.2.2⟩
theorem sub_iff (h : Int) (n : ByteArray) (l : List ByteArray) (h' : Int) (n' : ByteArray) (l' : List ByteArray) : subP h n l h' n' l' = true ↔ ∀ s, allowsP h n l s → allowsP h' n' l' s := by
  unfold subP
  rw [Bool.and_eq_true, List.all_eq_true, Bool.not_eq_true', Bool.and_eq_false_iff, decide_eq_false_iff_not, Bool.not_eq_false', decide_eq_true_iff]
  constructor
  · rintro ⟨h1, h2⟩ s hs
    by_cases hsp : s ∈ specL n l n' l'
    · have := h2 s hsp
      rw [Bool.or_eq_true, Bool.not_eq_true', decide_eq_false_iff_not, decide_eq_true_iff] at this
      exact this.resolve_left (fun hh => hh hs)
    · obtain ⟨a1, a2⟩ := allows_not_special (h := h) (h' := h') hsp
      exact a2.2 (h1.resolve_left (fun hh => hh (a1.1 hs)))
  · intro H
    refine ⟨?_, fun s _ => ?_⟩
    · by_cases hm : h = 1 ∨ h = 2
      · right
        obtain ⟨s, hs⟩ := fresh_word (specL n l n' l')
        obtain ⟨a1, a2⟩ := allows_not_special (h := h) (h' := h') hs
        exact a2.1 (H s (a1.2 hm))
      · exact .inl hm
    · rw [Bool.or_eq_true, Bool.not_eq_true', decide_eq_false_iff_not, decide_eq_true_iff]
      by_cases hs : allowsP h n l s
      · exact .inr (H s hs)
      · exact .inl hs
theorem allows1 (n : ByteArray) (l : List ByteArray) (s : ByteArray) : allowsP 1 n l s ↔ True := by unfold allowsP; rw [if_pos rfl]
theorem allows2 (n : ByteArray) (l : List ByteArray) (s : ByteArray) : allowsP 2 n l s ↔ s ≠ ⟨#[]⟩ ∧ s ≠ n := by unfold allowsP; rw [if_neg (by decide), if_pos rfl]
theorem allows3' (n : ByteArray) (l : List ByteArray) (s : ByteArray) : allowsP 3 n l s ↔ s ∈ l := by unfold allowsP; rw [if_neg (by decide), if_neg (by decide), if_pos rfl]
theorem say_sem (others : Bool) (p : Int) (S : List ByteArray) (f : ByteArray → Bool) (h0 : (⟨#[]⟩ : ByteArray) ∈ S) (h1 : others = false → ∀ s, f s = true → s ∈ S) (h2 : others = true → ∀ s, s ∉ S → f s = true)
    (hok : (sayP others p (S.filter f) (S.filter fun s => !f s)).2.2.2.2 = true) (s : ByteArray) :
    allowsP (sayP others p (S.filter f) (S.filter fun s => !f s)).1 (sayP others p (S.filter f) (S.filter fun s => !f s)).2.1 (sayP others p (S.filter f) (S.filter fun s => !f s)).2.2.1 s ↔ f s = true := by
  cases others with
  | false =>
    simp only [sayP, Bool.false_eq_true, if_false]
    rw [allows3', mem_setL, List.mem_filter]
    exact ⟨fun h => h.2, fun h => ⟨h1 rfl s h, h⟩⟩
  | true =>
    have hm : ∀ x, f x = true ↔ x ∉ S.filter fun s => !f s := by
      intro x
      rw [List.mem_filter]
      by_cases hx : x ∈ S
      · cases hf : f x <;> simp [hx]
      · simp [hx, h2 rfl x hx]
    have hsub : ∀ x, x ∈ (S.filter fun s => !f s) → x ∈ S := fun x hx => (List.mem_filter.1 hx).1
    rw [hm s]
    generalize (S.filter fun s => !f s) = outs at hok hm hsub ⊢
    unfold sayP at hok ⊢
    simp only [if_true] at hok ⊢
    have e0 : (⟨#[]⟩ : ByteArray) ∈ S := h0
    match outs with
    | [] => simp only; rw [allows1]; simp
    | o :: os =>
      by_cases ho : o = ⟨#[]⟩
      · subst ho
        simp only [if_true] at hok ⊢
        match os with
        | [] => simp only; rw [allows2]; simp
        | [o2] => simp only; rw [allows2]; simp
        | _ :: _ :: _ => simp only at hok; cases hok
      · simp only [if_neg ho] at hok
        cases hok
theorem both_sem (h : Int) (n : ByteArray) (l : List ByteArray) (p : Int) (h' : Int) (n' : ByteArray) (l' : List ByteArray) (hok : (bothP h n l p h' n' l').2.2.2.2 = true) (s : ByteArray) :
    allowsP (bothP h n l p h' n' l').1 (bothP h n l p h' n' l').2.1 (bothP h n l p h' n' l').2.2.1 s ↔ allowsP h n l s ∧ allowsP h' n' l' s := by
  unfold bothP at hok ⊢
  rw [say_sem _ p _ _ ((mem_specL _ _ _ _ _).2 (.inl rfl)) (fun ho s hf => ?_) (fun ho s hs => ?_) hok s, Bool.and_eq_true, decide_eq_true_iff, decide_eq_true_iff]
  · rw [Bool.and_eq_true, decide_eq_true_iff, decide_eq_true_iff] at hf
    refine Decidable.byContradiction fun hs => ?_
    obtain ⟨a1, a2⟩ := allows_not_special (h := h) (h' := h') hs
    rw [decide_eq_true (a1.1 hf.1), decide_eq_true (a2.1 hf.2)] at ho
    cases ho
  · rw [Bool.and_eq_true, decide_eq_true_iff, decide_eq_true_iff] at ho
    obtain ⟨a1, a2⟩ := allows_not_special (h := h) (h' := h') hs
    rw [decide_eq_true (a1.2 ho.1), decide_eq_true (a2.2 ho.2)]
    rfl
theorem union_sem (h : Int) (n : ByteArray) (l : List ByteArray) (p : Int) (h' : Int) (n' : ByteArray) (l' : List ByteArray) (hok : (unionP h n l p h' n' l').2.2.2.2 = true) (s : ByteArray) :
    allowsP (unionP h n l p h' n' l').1 (unionP h n l p h' n' l').2.1 (unionP h n l p h' n' l').2.2.1 s ↔ allowsP h n l s ∨ allowsP h' n' l' s := by
  unfold unionP at hok ⊢
  rw [say_sem _ p _ _ ((mem_specL _ _ _ _ _).2 (.inl rfl)) (fun ho s hf => ?_) (fun ho s hs => ?_) hok s, Bool.or_eq_true, decide_eq_true_iff, decide_eq_true_iff]
  · rw [Bool.or_eq_true, decide_eq_true_iff, decide_eq_true_iff] at hf
    refine Decidable.byContradiction fun hs => ?_
    obtain ⟨a1, a2⟩ := allows_not_special (h := h) (h' := h') hs
    rw [a1, a2] at hf
    rw [Bool.or_eq_false_iff, decide_eq_false_iff_not, decide_eq_false_iff_not] at ho
    exact hf.elim ho.1 ho.2
  · rw [Bool.or_eq_true, decide_eq_true_iff, decide_eq_true_iff] at ho
    obtain ⟨a1, a2⟩ := allows_not_special (h := h) (h' := h') hs
    rw [Bool.or_eq_true, decide_eq_true_iff, decide_eq_true_iff, a1, a2]
    exact ho

end Go.Proofs.Ytfpedicgeepikaa.B
