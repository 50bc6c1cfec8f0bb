import Derived.Test.YtjhmpippcndloaaB2
import Derived.Test.YtjhmpippcndloaaPrx6
namespace Go.Proofs.Ytjhmpippcndloaa.B
open Go.RowKit Go.Proofs.Ytjhmpippcndloaa Go.Proofs.Ytjhmpippcndloaa.G Go.Proofs.Ytjhmpippcndloaa.Pr Go.Proofs.YtjhmpippcndloaaW.PrintWords Go.Proofs.YtjhmpippcndloaaW.PrintLast
set_option linter.unusedVariables false
set_option linter.unusedSimpArgs false
/-! ### Union, Not, Same -/
theorem concat_ev (a b : List S24) (ha : a.length ≤ 1099511627776) (hb : b.length ≤ 1099511627776) : Ev (fun k => set_Range_31.f k [a, b]) (a ++ b) := by
  refine Ev.congr (f := fun k => set_Range_31.l0 k [a, b] 0 [a, b] 2 0) (fun k => rfl) (Ev_succ (Ev_succ (Ev_succ ?_)))
  have e0 : rd_L3 [a, b] 0 = a := rfl
  have e1 : rd_L3 [a, b] 1 = b := rfl
  simp only [set_Range_31.l0, List.length_cons, List.length_nil]
  have g : slices_Grow_rng.f [] ((a.length : Int) + (b.length : Int)) = some [] := by
    unfold slices_Grow_rng.f
    rw [if_pos ⟨rfl, by omega, by omega⟩]
  simp only [show ((0 + 1 + 1 : Nat) : Int) = 2 from rfl, if_pos (show (0 : Int) < 2 by decide), if_pos (show (0 : Int) ≤ 0 by decide), e0, show wrap64 (0 + 1) = 1 from w64 (x := 0 + 1) (by decide) (by decide), show wrap64 (1 + 1) = 2 from w64 (x := 1 + 1) (by decide) (by decide),
    show wrap64 (0 + (a.length : Int)) = (a.length : Int) from (w64 (x := 0 + (a.length : Int)) (by omega) (by omega)).trans (by omega), if_neg (show ¬ (a.length : Int) < 0 by omega), if_pos (show (1 : Int) < 2 by decide), if_pos (show (0 : Int) ≤ 1 by decide), e1,
    show wrap64 ((a.length : Int) + (b.length : Int)) = (a.length : Int) + (b.length : Int) from w64 (by omega) (by omega), if_neg (show ¬ (a.length : Int) + (b.length : Int) < 0 by omega), if_neg (show ¬ (2 : Int) < 2 by decide), g, Option.bind_some]
  refine Ev_succ (Ev_succ (Ev_succ ?_))
  simp only [set_Range_31.l1, List.length_cons, List.length_nil, show ((0 + 1 + 1 : Nat) : Int) = 2 from rfl, if_pos (show (0 : Int) < 2 by decide), if_pos (show (0 : Int) ≤ 0 by decide), e0, show wrap64 (0 + 1) = 1 from w64 (x := 0 + 1) (by decide) (by decide), show wrap64 (1 + 1) = 2 from w64 (x := 1 + 1) (by decide) (by decide),
    if_pos (show (1 : Int) < 2 by decide), if_pos (show (0 : Int) ≤ 1 by decide), e1, if_neg (show ¬ (2 : Int) < 2 by decide), List.nil_append, if_pos (show 0 + a.length < 17592186044416 by omega), if_pos (show a.length + b.length < 17592186044416 by omega)]
  exact Ev.now _
theorem union_ev (a b : List S24) (ha : a.length ≤ 549755813888) (hb : b.length ≤ 549755813888) : Ev (fun k => set_Union.f k a b) (ofL (a ++ b)) :=
  Ev.bind (concat_ev a b (by omega) (by omega)) (Ev.bind (of_ev (a ++ b) (by rw [List.length_append]; omega)) (Ev.now _))
/-- All others: behind at. -/
def notL : Int → List S24 → List S24
  | at_, [] => if at_ ≤ 1114111 then [⟨at_, 1114111⟩] else []
  | at_, x :: l => if x.f0 > at_ then ⟨at_, x.f0 - 1⟩ :: notL (x.f1 + 1) l else notL (x.f1 + 1) l
theorem not_l0 (s : List S24) (hs : Canon s) (hl : s.length ≤ 1099511627776) : ∀ (d i : Nat) (out : List S24) (at_ : Int), i + d = s.length → out.length ≤ i → 0 ≤ at_ → at_ ≤ topL + 1 →
    Ev (fun k => set_Set_Not.l0 k out at_ s (s.length : Int) (i : Int)) (out ++ notL at_ (s.drop i))
  | 0, i, out, at_, hi, ho, h0, h1 => by
    rw [List.drop_of_length_le (by omega)]
    refine Ev_succ ?_
    simp only [set_Set_Not.l0, if_neg (show ¬ (i : Int) < (s.length : Int) by omega), notL, if_pos (show out.length < 17592186044416 by omega)]
    by_cases h : at_ ≤ 1114111
    · simp only [if_pos h]
      exact Ev.now _
    · simp only [if_neg h, List.append_nil]
      exact Ev.now _
  | d + 1, i, out, at_, hi, ho, h0, h1 => by
    have hlt : i < s.length := by omega
    have hd : s.drop i = s[i] :: s.drop (i + 1) := List.drop_eq_getElem_cons hlt
    have hx := hs.each _ (List.getElem_mem hlt)
    have ih := fun out' at' => not_l0 s hs hl d (i + 1) out' at' (by omega)
    refine Ev_succ ?_
    have hw1 : wrap32 (s[i].f0 - 1) = s[i].f0 - 1 := w32 (by unfold topL at hx; omega) (by unfold topL at hx; omega)
    have hw2 : wrap32 (s[i].f1 + 1) = s[i].f1 + 1 := w32 (by unfold topL at hx; omega) (by unfold topL at hx; omega)
    simp only [set_Set_Not.l0, if_pos (show (i : Int) < (s.length : Int) by omega), if_pos (show (0 : Int) ≤ (i : Int) by omega), rdT hlt, nxt hlt hl, hw1, hw2, if_pos (show out.length < 17592186044416 by omega)]
    rw [hd]
    simp only [notL]
    by_cases h : s[i].f0 > at_
    · simp only [if_pos h]
      have := ih (out ++ [⟨at_, s[i].f0 - 1⟩]) (s[i].f1 + 1) (by simp only [List.length_append, List.length_singleton]; omega) (by omega) (by omega)
      rw [List.append_assoc] at this
      exact this
    · simp only [if_neg h]
      exact ih out (s[i].f1 + 1) (by omega) (by omega) (by omega)
theorem not_ev (s : List S24) (hs : Canon s) (hl : s.length ≤ 1099511627776) : Ev (fun k => set_Set_Not.f k s) (notL 0 s) := by
  have := not_l0 s hs hl s.length 0 [] 0 (by omega) (Nat.le_refl _) (by decide) (by decide)
  exact Ev.congr (fun k => rfl) this
/-- What the others are. -/
theorem notL_all : ∀ (s : List S24) (at_ : Int), Canon s → 0 ≤ at_ → (∀ x, x ∈ s → at_ ≤ x.f0) → Canon (notL at_ s) ∧ (∀ x, x ∈ notL at_ s → at_ ≤ x.f0) ∧ ∀ r, hasP (notL at_ s) r ↔ at_ ≤ r ∧ r ≤ topL ∧ ¬ hasP s r
  | [], at_, _, h0, _ => by
    simp only [notL]
    by_cases h : at_ ≤ 1114111
    · rw [if_pos h]
      refine ⟨⟨fun x hx => by rw [List.mem_singleton.1 hx]; exact ⟨h0, h, Int.le_refl _⟩, List.pairwise_singleton _ _⟩, fun x hx => by rw [List.mem_singleton.1 hx]; exact Int.le_refl _, fun r => ?_⟩
      rw [has_one]
      exact ⟨fun hh => ⟨hh.1, hh.2, has_nil r⟩, fun hh => ⟨hh.1, hh.2.1⟩⟩
    · rw [if_neg h]
      refine ⟨Canon.nil, fun x hx => (by cases hx), fun r => ⟨fun hh => absurd hh (has_nil r), fun hh => ?_⟩⟩
      have := hh.2.1
      unfold topL at this
      omega
  | x :: l, at_, hs, h0, hb => by
    have hx := hs.each x List.mem_cons_self
    have hbx := hb x List.mem_cons_self
    have hhead := hs.head
    have hap := (List.pairwise_cons.1 hs.apart).1
    obtain ⟨c1, c2, c3⟩ := notL_all l (x.f1 + 1) hs.tail (by omega) (fun y hy => by have := hap y hy; omega)
    have key : ∀ r, hasP (x :: l) r ↔ (x.f0 ≤ r ∧ r ≤ x.f1) ∨ hasP l r := has_cons x l
    simp only [notL]
    by_cases h : x.f0 > at_
    · rw [if_pos h]
      refine ⟨⟨fun y hy => ?_, List.pairwise_cons.2 ⟨fun y hy => ?_, c1.apart⟩⟩, fun y hy => ?_, fun r => ?_⟩
      · rcases List.mem_cons.1 hy with rfl | hy
        · exact ⟨h0, by show at_ ≤ x.f0 - 1; omega, by show x.f0 - 1 ≤ topL; omega⟩
        · exact c1.each y hy
      · have := c2 y hy
        show x.f0 - 1 + 1 < y.f0
        omega
      · rcases List.mem_cons.1 hy with rfl | hy
        · exact Int.le_refl _
        · have := c2 y hy; omega
      · rw [has_cons, c3 r, key r]
        show (at_ ≤ r ∧ r ≤ x.f0 - 1) ∨ _ ↔ _
        constructor
        · rintro (⟨h1, h2⟩ | ⟨h1, h2, h3⟩)
          · refine ⟨h1, by omega, ?_⟩
            rintro (h4 | h4)
            · omega
            · have := hhead r h4; omega
          · refine ⟨by omega, h2, ?_⟩
            rintro (h4 | h4)
            · omega
            · exact h3 h4
        · rintro ⟨h1, h2, h3⟩
          by_cases h4 : r ≤ x.f0 - 1
          · exact .inl ⟨h1, h4⟩
          · refine .inr ⟨?_, h2, fun h5 => h3 (.inr h5)⟩
            refine Int.not_lt.1 (fun h5 => h3 (.inl ⟨by omega, by omega⟩))
    · rw [if_neg h]
      have e : at_ = x.f0 := by omega
      subst e
      refine ⟨c1, fun y hy => by have := c2 y hy; omega, fun r => ?_⟩
      rw [c3 r, key r]
      constructor
      · rintro ⟨h1, h2, h3⟩
        refine ⟨by omega, h2, ?_⟩
        rintro (h4 | h4)
        · omega
        · exact h3 h4
      · rintro ⟨h1, h2, h3⟩
        refine ⟨?_, h2, fun h5 => h3 (.inr h5)⟩
        exact Int.not_lt.1 (fun h5 => h3 (.inl ⟨h1, by omega⟩))
theorem not_canon {s : List S24} (hs : Canon s) : Canon (notL 0 s) := (notL_all s 0 hs (Int.le_refl _) (fun x hx => (hs.each x hx).1)).1
theorem not_has {s : List S24} (hs : Canon s) (r : Int) : hasP (notL 0 s) r ↔ 0 ≤ r ∧ r ≤ topL ∧ ¬ hasP s r := (notL_all s 0 hs (Int.le_refl _) (fun x hx => (hs.each x hx).1)).2.2 r
theorem notL_length : ∀ (s : List S24) (at_ : Int), (notL at_ s).length ≤ s.length + 1
  | [], at_ => by simp only [notL]; split <;> simp
  | x :: l, at_ => by
    have := notL_length l (x.f1 + 1)
    simp only [notL]
    split <;> simp only [List.length_cons] <;> omega
theorem has_ev (s : List S24) (r : Int) (hl : s.length ≤ 9223372036854775807) : set_Has.f s r = some (decide (hasP s r)) := by
  unfold set_Has.f
  rw [if_pos hl, any_has]

end Go.Proofs.Ytjhmpippcndloaa.B
