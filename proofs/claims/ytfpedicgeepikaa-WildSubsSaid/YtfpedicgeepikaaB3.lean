import Derived.Test.YtfpedicgeepikaaB2
namespace Go.Proofs.Ytfpedicgeepikaa.B
open Go.RowKit Go.Proofs.Ytfpedicgeepikaa Go.Proofs.Ytfpedicgeepikaa.G Go.Proofs.Ytfpedicgeepikaa.Pr Go.Proofs.YtfpedicgeepikaaW.PrintWords Go.Proofs.YtfpedicgeepikaaW.PrintLast
set_option linter.unusedVariables false
set_option linter.unusedSimpArgs false
theorem most_eq (h : Int) (n : ByteArray) (l : List ByteArray) (p : Int) : wild_most.f h n l p = some (decide (h = 1 ∨ h = 2)) := by
  unfold wild_most.f
  by_cases h1 : h = 1
  · rw [if_pos h1, decide_eq_true (.inl h1)]
  · rw [if_neg h1]
    congr 1
    by_cases h2 : h = 2
    · rw [decide_eq_true (.inr h2), h2]
      rfl
    · rw [decide_eq_false (fun hh => hh.elim h1 h2)]
      simpa using h2
/-- All spaces that two wildcards name. -/
def specL (n : ByteArray) (l : List ByteArray) (n' : ByteArray) (l' : List ByteArray) : List ByteArray := setL (((([⟨#[]⟩] ++ l) ++ [n]) ++ l') ++ [n'])
theorem mem_specL (n : ByteArray) (l : List ByteArray) (n' : ByteArray) (l' : List ByteArray) (s : ByteArray) : s ∈ specL n l n' l' ↔ s = ⟨#[]⟩ ∨ s ∈ l ∨ s = n ∨ s ∈ l' ∨ s = n' := by
  rw [specL, mem_setL]
  simp only [List.mem_append, List.mem_singleton]
  constructor
  · rintro ((((h | h) | h) | h) | h) <;> simp [h]
  · rintro (h | h | h | h | h) <;> simp [h]
theorem special_ev (h : Int) (n : ByteArray) (l : List ByteArray) (p : Int) (h' : Int) (n' : ByteArray) (l' : List ByteArray) (p' : Int) (hl : l.length ≤ 1048576) (hl' : l'.length ≤ 1048576) :
    Ev (fun k => wild_special.f k [⟨h, n, l, p⟩, ⟨h', n', l', p'⟩]) (specL n l n' l') := by
  refine Ev.congr (f := fun k => wild_special.l0 k [⟨#[]⟩] [⟨h, n, l, p⟩, ⟨h', n', l', p'⟩] 2 0) (fun k => rfl) (Ev_succ (Ev_succ (Ev_succ ?_)))
  have e0 : rd_T26 [(⟨h, n, l, p⟩ : S26), ⟨h', n', l', p'⟩] 0 = ⟨h, n, l, p⟩ := rfl
  have e1 : rd_T26 [(⟨h, n, l, p⟩ : S26), ⟨h', n', l', p'⟩] 1 = ⟨h', n', l', p'⟩ := rfl
  simp only [wild_special.l0, List.length_cons, List.length_nil]
  simp only [show ((0 + 1 + 1 : Nat) : Int) = 2 by rfl, if_pos (show (0 : Int) < 2 by decide), if_pos (show (0 : Int) ≤ 0 by decide), e0, Option.bind_some, List.length_append, List.length_cons, List.length_nil]
  simp only [show wrap64 (0 + 1) = 1 from w64 (by decide) (by decide), show wrap64 (1 + 1) = 2 from w64 (by decide) (by decide), if_pos (show (1 : Int) < 2 by decide), if_pos (show (0 : Int) ≤ 1 by decide), e1, if_neg (show ¬ (2 : Int) < 2 by decide),
    if_pos (show 0 + 1 + l.length < 8796093022208 by omega), if_pos (show 0 + 1 + l.length + (0 + 1) < 8796093022208 by omega), if_pos (show 0 + 1 + l.length + (0 + 1) + l'.length < 8796093022208 by omega), if_pos (show 0 + 1 + l.length + (0 + 1) + l'.length + (0 + 1) < 8796093022208 by omega)]
  have hs : slices_Sort_str.f (((([⟨#[]⟩] ++ l) ++ [n]) ++ l') ++ [n']) = some (sortL (((([⟨#[]⟩] ++ l) ++ [n]) ++ l') ++ [n'])) := by
    unfold slices_Sort_str.f
    rw [if_pos (by simp only [List.length_append, List.length_singleton]; omega)]
  have hc : slices_Compact_str.f (sortL (((([⟨#[]⟩] ++ l) ++ [n]) ++ l') ++ [n'])) = some (specL n l n' l') := by
    unfold slices_Compact_str.f
    rw [if_pos (by rw [sortL_length]; simp only [List.length_append, List.length_singleton]; omega)]
    rfl
  simp only [hs, Option.bind_some, hc]
  exact Ev.now _

end Go.Proofs.Ytfpedicgeepikaa.B
