import Derived.Test.YtfpedicgeepikaaM2
import Derived.Test.YtfpedicgeepikaaPrx9
import Derived.Test.YtfpedicgeepikaaPrx6
import Derived.Test.YtfpedicgeepikaaPrx7
import Derived.Test.YtfpedicgeepikaaPrx8
import Derived.Test.YtfpedicgeepikaaG13
import Derived.Test.YtfpedicgeepikaaG14
namespace Go.Proofs.Ytfpedicgeepikaa.B
open Go.RowKit Go.Proofs.Ytfpedicgeepikaa Go.Proofs.Ytfpedicgeepikaa.G Go.Proofs.Ytfpedicgeepikaa.Pr Go.Proofs.YtfpedicgeepikaaW.PrintWords Go.Proofs.YtfpedicgeepikaaW.PrintLast
set_option linter.unusedVariables false
set_option linter.unusedSimpArgs false
/-! ### The document's functions -/
theorem bl_eq (a b : ByteArray) : Op.bytesLess a.toList b.toList = decide (lst a < lst b) := by rw [bytesLess_eq, toList_lst, toList_lst]
instance (l : List ByteArray) : Decidable (Rising l) := by unfold Rising; infer_instance
theorem rising_adj (l : List ByteArray) : Rising l ↔ ∀ (j : Nat) (h1 : 1 ≤ j) (hj : j < l.length), lst (l[j - 1]'(by omega)) < lst (l[j]'hj) := by
  unfold Rising
  rw [List.pairwise_iff_getElem]
  constructor
  · intro h j h1 hj
    have := h (j - 1) j (by rw [List.length_map]; omega) (by rw [List.length_map]; omega) (by omega)
    simpa using this
  · intro h i j hi hj hij
    rw [List.length_map] at hi hj
    simp only [List.getElem_map]
    have go : ∀ (d : Nat) (hd : i + 1 + d < l.length), lst (l[i]'hi) < lst (l[i + 1 + d]'hd) := by
      intro d
      induction d with
      | zero => intro hd; exact h (i + 1) (by omega) hd
      | succ d ih => intro hd; exact ll_trans (ih (by omega)) (h (i + 1 + (d + 1)) (by omega) hd)
    have := go (j - i - 1) (by omega)
    have e : i + 1 + (j - i - 1) = j := by omega
    simpa only [e] using this
theorem rright_l0 (h : Int) (n : ByteArray) (l : List ByteArray) (p : Int) (hl : l.length ≤ 1048576) : ∀ (d i : Nat), 1 ≤ i → l.length ≤ i + d → (∀ (j : Nat) (h1 : 1 ≤ j) (hj : j < l.length), j < i → lst (l[j - 1]'(by omega)) < lst (l[j]'hj)) → i ≤ 1048577 →
    Ev (fun k => rubricref14_Right.l0 k (i : Int) h n l p) (decide (Rising l))
  | 0, i, h1, hi, ha, hb => by
    refine Ev_succ ?_
    simp only [rubricref14_Right.l0, if_neg (show ¬ (i : Int) < (l.length : Int) by omega)]
    rw [decide_eq_true ((rising_adj l).2 (fun j h1 hj => ha j h1 hj (by omega)))]
    exact Ev.now _
  | d + 1, i, h1, hi, ha, hb => by
    refine Ev_succ ?_
    by_cases hlt : i < l.length
    · have e1 : wrap64 ((i : Int) - 1) = ((i - 1 : Nat) : Int) := by rw [w64 (x := (i : Int) - 1) (by omega) (by omega)]; omega
      have e2 : wrap64 ((i : Int) + 1) = ((i + 1 : Nat) : Int) := by rw [w64 (x := (i : Int) + 1) (by omega) (by omega)]; omega
      simp only [rubricref14_Right.l0, if_pos (show (i : Int) < (l.length : Int) by omega), e1, e2, if_pos (show (0 : Int) ≤ ((i - 1 : Nat) : Int) by omega), if_pos (show ((i - 1 : Nat) : Int) < (l.length : Int) by omega), if_pos (show (0 : Int) ≤ (i : Int) by omega), rdOf_get hlt, rdOf_get (show i - 1 < l.length by omega), bl_eq]
      by_cases hc : lst (l[i - 1]'(by omega)) < lst (l[i]'hlt)
      · simp only [decide_eq_true hc, if_true]
        refine rright_l0 h n l p hl d (i + 1) (by omega) (by omega) (fun j h1 hj hji => ?_) (by omega)
        by_cases e : j = i
        · subst e; exact hc
        · exact ha j h1 hj (by omega)
      · simp only [decide_eq_false hc, Bool.false_eq_true, if_false]
        rw [decide_eq_false (fun hr => hc ((rising_adj l).1 hr i h1 hlt))]
        exact Ev.now _
    · simp only [rubricref14_Right.l0, if_neg (show ¬ (i : Int) < (l.length : Int) by omega)]
      rw [decide_eq_true ((rising_adj l).2 (fun j h1 hj => ha j h1 hj (by omega)))]
      exact Ev.now _
theorem rj0_true (h : Int) (n : ByteArray) (l : List ByteArray) (p : Int) : Ev (fun k => rubricref14_Right.j0 k true h n l p) false := by
  refine Ev_succ ?_
  simp only [rubricref14_Right.j0, if_true]
  exact Ev.now _
theorem rj0_false (h : Int) (n : ByteArray) (l : List ByteArray) (p : Int) (hl : l.length ≤ 1048576) : Ev (fun k => rubricref14_Right.j0 k false h n l p) (decide (Rising l)) := by
  refine Ev_succ ?_
  simp only [rubricref14_Right.j0, Bool.false_eq_true, if_false]
  exact rright_l0 h n l p hl l.length 1 (by omega) (by omega) (fun j h1 hj hji => by omega) (by omega)
theorem rising_nil : Rising [] := List.Pairwise.nil
theorem setL_iff (l : List ByteArray) : setL l = l ↔ Rising l := ⟨fun h => by rw [← h]; exact rising_setL l, setL_of_rising⟩
theorem rright_ev (h : Int) (n : ByteArray) (l : List ByteArray) (p : Int) (hl : l.length ≤ 1048576) : Ev (fun k => rubricref14_Right.f k h n l p) (decide (rightP h n l p)) := by
  have no : ¬ rightP h n l p → Ev (fun k => rubricref14_Right.j0 k true h n l p) (decide (rightP h n l p)) := fun hn => by rw [decide_eq_false hn]; exact rj0_true h n l p
  have hle : ∀ b : Bool, b = decide ((l.length : Int) > 0) → (l ≠ [] → ¬ rightP h n l p) → (l = [] → rightP h n l p) → Ev (fun k => rubricref14_Right.j0 k b h n l p) (decide (rightP h n l p)) := by
    intro b hb h0 h1
    by_cases e : l = []
    · subst e
      have : b = false := by rw [hb]; rfl
      rw [this, decide_eq_true (h1 rfl)]
      have := rj0_false h n [] p (by decide)
      rwa [decide_eq_true rising_nil] at this
    · have : b = true := by
        rw [hb]
        have := List.length_pos_iff.2 e
        simp only [gt_iff_lt, decide_eq_true_eq]
        omega
      rw [this, decide_eq_false (h0 e)]
      exact rj0_true h n l p
  unfold rubricref14_Right.f
  by_cases a1 : h < 1
  · simp only [if_pos a1]
    exact no (fun r => by rcases r.2 with ⟨e, _⟩ | ⟨e, _⟩ | ⟨e, _⟩ <;> omega)
  by_cases a2 : h > 3
  · simp only [if_neg a1, if_pos a2]
    exact no (fun r => by rcases r.2 with ⟨e, _⟩ | ⟨e, _⟩ | ⟨e, _⟩ <;> omega)
  by_cases a3 : p < 1
  · simp only [if_neg a1, if_neg a2, if_pos a3]
    exact no (fun r => by have := r.1; omega)
  by_cases a4 : p > 3
  · simp only [if_neg a1, if_neg a2, if_neg a3, if_pos a4]
    exact no (fun r => by have := r.1; omega)
  simp only [if_neg a1, if_neg a2, if_neg a3, if_neg a4]
  have hp : 1 ≤ p ∧ p ≤ 3 := ⟨by omega, by omega⟩
  by_cases a5 : h = 2
  · subst a5
    simp only [if_true, if_neg (show ¬ (2 : Int) = 3 by decide)]
    refine hle _ rfl (fun hn r => ?_) (fun e => ⟨hp, .inr (.inl ⟨rfl, e⟩)⟩)
    rcases r.2 with ⟨e, _⟩ | ⟨_, e⟩ | ⟨e, _⟩
    · exact absurd e (by decide)
    · exact hn e
    · exact absurd e (by decide)
  simp only [if_neg a5]
  by_cases a6 : n = ⟨#[]⟩
  · subst a6
    simp only [if_pos (tl_nil.2 rfl)]
    by_cases a7 : h = 3
    · subst a7
      simp only [if_true]
      have := rj0_false 3 ⟨#[]⟩ l p hl
      have e : decide (Rising l) = decide (rightP 3 ⟨#[]⟩ l p) := by
        apply decide_eq_decide.2
        constructor
        · exact fun hr => ⟨hp, .inr (.inr ⟨rfl, rfl, setL_of_rising hr⟩)⟩
        · rintro ⟨_, ⟨e, _⟩ | ⟨e, _⟩ | ⟨_, _, e⟩⟩
          · exact absurd e (by decide)
          · exact absurd e (by decide)
          · exact (setL_iff l).1 e
      rwa [e] at this
    · simp only [if_neg a7]
      have a8 : h = 1 := by omega
      subst a8
      refine hle _ rfl (fun hn r => ?_) (fun e => ⟨hp, .inl ⟨rfl, rfl, e⟩⟩)
      rcases r.2 with ⟨_, _, e⟩ | ⟨e, _⟩ | ⟨e, _⟩
      · exact hn e
      · exact absurd e (by decide)
      · exact absurd e (by decide)
  · simp only [if_neg (fun e => a6 (tl_nil.1 e))]
    refine no (fun r => ?_)
    rcases r.2 with ⟨_, e, _⟩ | ⟨e, _⟩ | ⟨_, e, _⟩
    · exact a6 e
    · exact a5 e
    · exact a6 e
theorem rallows_l0 (h : Int) (n : ByteArray) (l : List ByteArray) (p : Int) (s : ByteArray) (hl : l.length ≤ 1048576) : ∀ (d i : Nat), i + d = l.length → Ev (fun k => rubricref14_Allows.l0 k s (i : Int) h n l p) (decide (s ∈ l.drop i))
  | 0, i, hi => by
    refine Ev_succ ?_
    simp only [rubricref14_Allows.l0, if_neg (show ¬ (i : Int) < (l.length : Int) by omega)]
    rw [List.drop_of_length_le (by omega), decide_eq_false (by simp)]
    exact Ev.now _
  | d + 1, i, hi => by
    have hlt : i < l.length := by omega
    have e2 : wrap64 ((i : Int) + 1) = ((i + 1 : Nat) : Int) := by rw [w64 (x := (i : Int) + 1) (by omega) (by omega)]; omega
    refine Ev_succ ?_
    simp only [rubricref14_Allows.l0, if_pos (show (i : Int) < (l.length : Int) by omega), if_pos (show (0 : Int) ≤ (i : Int) by omega), rdOf_get hlt, e2, tl_eq]
    have ih := rallows_l0 h n l p s hl d (i + 1) (by omega)
    rw [List.drop_eq_getElem_cons hlt]
    by_cases e : l[i] = s
    · simp only [if_pos e]
      rw [decide_eq_true (by rw [e]; exact List.mem_cons_self)]
      exact Ev.now _
    · simp only [if_neg e]
      have : decide (s ∈ l[i] :: l.drop (i + 1)) = decide (s ∈ l.drop (i + 1)) := decide_eq_decide.2 (by
        rw [List.mem_cons]
        exact ⟨fun hh => hh.elim (fun x => absurd x.symm e) id, .inr⟩)
      rwa [this]
theorem rallows_ev (h : Int) (n : ByteArray) (l : List ByteArray) (p : Int) (s : ByteArray) (hl : l.length ≤ 1048576) (hh : h = 1 ∨ h = 2 ∨ h = 3) : Ev (fun k => rubricref14_Allows.f k h n l p s) (decide (allowsP h n l s)) := by
  unfold rubricref14_Allows.f
  rcases hh with rfl | rfl | rfl
  · simp only [if_true, decide_eq_true ((allows1 n l s).2 trivial)]
    exact Ev.now _
  · simp only [if_neg (show ¬ (2 : Int) = 1 by decide), if_true]
    by_cases e : s = ⟨#[]⟩
    · simp only [if_pos (tl_nil.2 e), decide_eq_false (fun hc => ((allows2 n l s).1 hc).1 e)]
      exact Ev.now _
    · simp only [if_neg (fun hc => e (tl_nil.1 hc))]
      have : (s.toList != n.toList) = decide (allowsP 2 n l s) := by
        by_cases e2 : s = n
        · rw [decide_eq_false (fun hc => ((allows2 n l s).1 hc).2 e2), e2]; simp
        · rw [decide_eq_true ((allows2 n l s).2 ⟨e, e2⟩), bne_iff_ne]
          exact fun hc => e2 (tl_eq.1 hc)
      rw [this]
      exact Ev.now _
  · simp only [if_neg (show ¬ (3 : Int) = 1 by decide), if_neg (show ¬ (3 : Int) = 2 by decide)]
    have := rallows_l0 3 n l p s hl l.length 0 (by omega)
    rw [List.drop_zero] at this
    rwa [decide_eq_decide.2 (allows3' n l s)]
theorem right_h {h : Int} {n : ByteArray} {l : List ByteArray} {p : Int} (r : rightP h n l p) : h = 1 ∨ h = 2 ∨ h = 3 := by
  rcases r.2 with ⟨e, _⟩ | ⟨e, _⟩ | ⟨e, _⟩
  · exact .inl e
  · exact .inr (.inl e)
  · exact .inr (.inr e)
theorem rsub_l0 (h : Int) (n : ByteArray) (l : List ByteArray) (p : Int) (h' : Int) (n' : ByteArray) (l' : List ByteArray) (p' : Int) (hl : l.length ≤ 1048576) (hl' : l'.length ≤ 1048576) (hh : h' = 1 ∨ h' = 2 ∨ h' = 3) : ∀ (d i : Nat), i + d = l.length →
    Ev (fun k => rubricref14_Sub.l0 k (i : Int) h n l p h' n' l' p') ((l.drop i).all fun s => decide (allowsP h' n' l' s))
  | 0, i, hi => by
    refine Ev_succ ?_
    simp only [rubricref14_Sub.l0, if_neg (show ¬ (i : Int) < (l.length : Int) by omega)]
    rw [List.drop_of_length_le (by omega)]
    exact Ev.now _
  | d + 1, i, hi => by
    have hlt : i < l.length := by omega
    have e2 : wrap64 ((i : Int) + 1) = ((i + 1 : Nat) : Int) := by rw [w64 (x := (i : Int) + 1) (by omega) (by omega)]; omega
    refine Ev_succ ?_
    simp only [rubricref14_Sub.l0, if_pos (show (i : Int) < (l.length : Int) by omega), if_pos (show (0 : Int) ≤ (i : Int) by omega), rdOf_get hlt, e2]
    have ih := rsub_l0 h n l p h' n' l' p' hl hl' hh d (i + 1) (by omega)
    rw [List.drop_eq_getElem_cons hlt, List.all_cons]
    refine Ev.bind (rallows_ev h' n' l' p' l[i] hl' hh) ?_
    cases decide (allowsP h' n' l' l[i]) with
    | true => simpa only [if_true, Bool.true_and] using ih
    | false =>
      simp only [Bool.false_eq_true, if_false, Bool.false_and]
      exact Ev.now _
theorem rsub_ev (h : Int) (n : ByteArray) (l : List ByteArray) (p : Int) (h' : Int) (n' : ByteArray) (l' : List ByteArray) (p' : Int) (hl : l.length ≤ 1048576) (hl' : l'.length ≤ 1048576) (ra : h = 1 ∨ h = 2 ∨ h = 3) (rb : h' = 1 ∨ h' = 2 ∨ h' = 3) :
    Ev (fun k => rubricref14_Sub.f k h n l p h' n' l' p') (subP h n l h' n' l') := by
  have iff_ := sub_iff h n l h' n' l'
  have yes : (∀ s, allowsP h n l s → allowsP h' n' l' s) → subP h n l h' n' l' = true := iff_.2
  have no : (∃ s, allowsP h n l s ∧ ¬ allowsP h' n' l' s) → subP h n l h' n' l' = false := fun ⟨s, h1, h2⟩ => by
    rw [← Bool.not_eq_true]
    exact fun hc => h2 (iff_.1 hc s h1)
  have fresh : h ≠ 3 → h' = 3 → subP h n l h' n' l' = false := fun h1 h2 => by
    obtain ⟨s, hs⟩ := fresh_word (⟨#[]⟩ :: n :: (l ++ l'))
    simp only [List.mem_cons, List.mem_append, not_or] at hs
    refine no ⟨s, (allows_far hs.1 hs.2.2.1 hs.2.1).2 (by omega), ?_⟩
    subst h2
    rw [allows3']
    exact hs.2.2.2
  unfold rubricref14_Sub.f
  by_cases a1 : h = 3
  · subst a1
    simp only [if_true]
    have := rsub_l0 3 n l p h' n' l' p' hl hl' rb l.length 0 (by omega)
    rw [List.drop_zero] at this
    have e : (l.all fun s => decide (allowsP h' n' l' s)) = subP 3 n l h' n' l' := by
      rw [Bool.eq_iff_iff, iff_, List.all_eq_true]
      simp only [decide_eq_true_iff, allows3']
    rwa [e] at this
  simp only [if_neg a1]
  by_cases a2 : h' = 1
  · subst a2
    simp only [if_true]
    rw [yes (fun s _ => (allows1 n' l' s).2 trivial)]
    exact Ev.now _
  simp only [if_neg a2]
  by_cases a3 : h = 2
  · subst a3
    simp only [if_true]
    by_cases a4 : h' = 2
    · subst a4
      simp only [if_true]
      by_cases a5 : n' = ⟨#[]⟩
      · simp only [if_pos (tl_nil.2 a5)]
        rw [yes (fun s hs => (allows2 n' l' s).2 ⟨((allows2 n l s).1 hs).1, by rw [a5]; exact ((allows2 n l s).1 hs).1⟩)]
        exact Ev.now _
      · simp only [if_neg (fun hc => a5 (tl_nil.1 hc))]
        by_cases a6 : n = n'
        · rw [yes (fun s hs => (allows2 n' l' s).2 (by rw [← a6]; exact (allows2 n l s).1 hs)), a6]
          simp only [beq_self_eq_true]
          exact Ev.now _
        · rw [no ⟨n', (allows2 n l n').2 ⟨a5, fun e => a6 e.symm⟩, fun hc => ((allows2 n' l' n').1 hc).2 rfl⟩, beq_eq_false_iff_ne.2 (fun hc => a6 (tl_eq.1 hc))]
          exact Ev.now _
    · simp only [if_neg a4]
      rw [fresh (by decide) (by omega)]
      exact Ev.now _
  · simp only [if_neg a3]
    have a4 : h = 1 := by omega
    subst a4
    by_cases a5 : h' = 2
    · subst a5
      rw [no ⟨⟨#[]⟩, (allows1 n l _).2 trivial, fun hc => ((allows2 n' l' _).1 hc).1 rfl⟩]
      exact Ev.now _
    · rw [fresh (by decide) (by omega)]
      exact Ev.now _
def sameP (h : Int) (n : ByteArray) (l : List ByteArray) (p : Int) (h' : Int) (n' : ByteArray) (l' : List ByteArray) (p' : Int) : Bool := decide (p = p') && (subP h n l h' n' l' && subP h' n' l' h n l)
theorem same_ev (h : Int) (n : ByteArray) (l : List ByteArray) (p : Int) (h' : Int) (n' : ByteArray) (l' : List ByteArray) (p' : Int) (hl : l.length ≤ 1048576) (hl' : l'.length ≤ 1048576) :
    Ev (fun k => wild_Same.f k h n l p h' n' l' p') (sameP h n l p h' n' l' p') := by
  unfold wild_Same.f sameP
  by_cases e : p = p'
  · simp only [if_pos e, decide_eq_true e, Bool.true_and]
    refine Ev.bind (sub_ev h n l p h' n' l' p' hl hl') ?_
    cases subP h n l h' n' l' with
    | true =>
      simp only [if_true, Bool.true_and]
      exact Ev.bind (sub_ev h' n' l' p' h n l p hl' hl) (Ev.now _)
    | false =>
      simp only [Bool.false_eq_true, if_false, Bool.false_and]
      exact Ev.now _
  · simp only [if_neg e, decide_eq_false e, Bool.false_and]
    exact Ev.now _
theorem rsame_ev (h : Int) (n : ByteArray) (l : List ByteArray) (p : Int) (h' : Int) (n' : ByteArray) (l' : List ByteArray) (p' : Int) (hl : l.length ≤ 1048576) (hl' : l'.length ≤ 1048576) (ra : h = 1 ∨ h = 2 ∨ h = 3) (rb : h' = 1 ∨ h' = 2 ∨ h' = 3) :
    Ev (fun k => rubricref14_Same.f k h n l p h' n' l' p') (sameP h n l p h' n' l' p') := by
  unfold rubricref14_Same.f sameP
  by_cases e : p = p'
  · simp only [if_pos e, decide_eq_true e, Bool.true_and]
    refine Ev.bind (rsub_ev h n l p h' n' l' p' hl hl' ra rb) ?_
    cases subP h n l h' n' l' with
    | true =>
      simp only [if_true, Bool.true_and]
      exact Ev.bind (rsub_ev h' n' l' p' h n l p hl' hl rb ra) (Ev.now _)
    | false =>
      simp only [Bool.false_eq_true, if_false, Bool.false_and]
      exact Ev.now _
  · simp only [if_neg e, decide_eq_false e, Bool.false_and]
    exact Ev.now _
theorem sameP_true {h : Int} {n : ByteArray} {l : List ByteArray} {p : Int} {h' : Int} {n' : ByteArray} {l' : List ByteArray} {p' : Int} (hp : p = p') (hs : ∀ s, allowsP h n l s ↔ allowsP h' n' l' s) : sameP h n l p h' n' l' p' = true := by
  unfold sameP
  rw [decide_eq_true hp, (sub_iff h n l h' n' l').2 (fun s => (hs s).1), (sub_iff h' n' l' h n l).2 (fun s => (hs s).2)]
  rfl

end Go.Proofs.Ytfpedicgeepikaa.B

namespace Go.Proofs.Ytfpedicgeepikaa.B
open Go.RowKit Go.Proofs.Ytfpedicgeepikaa Go.Proofs.Ytfpedicgeepikaa.G Go.Proofs.Ytfpedicgeepikaa.Pr Go.Proofs.YtfpedicgeepikaaW.PrintWords Go.Proofs.YtfpedicgeepikaaW.PrintLast
set_option linter.unusedVariables false
set_option linter.unusedSimpArgs false
/-! ### What both, what one of them allows: the document's answer -/
theorem rfilter_l0 (h : Int) (n : ByteArray) (l : List ByteArray) (p : Int) (h' : Int) (n' : ByteArray) (l' : List ByteArray) (p' : Int) (q : Int) (hl : l.length ≤ 1048576) (hl' : l'.length ≤ 1048576) (hh : h' = 1 ∨ h' = 2 ∨ h' = 3) : ∀ (d i : Nat) (acc : List ByteArray), i + d = l.length → acc.length + d ≤ 2097152 →
    Ev (fun k => rubricref14_filter.l0 k (i : Int) h n l p h' n' l' p' 3 ⟨#[]⟩ acc q) (3, ⟨#[]⟩, acc ++ (l.drop i).filter (fun s => decide (allowsP h' n' l' s)), q)
  | 0, i, acc, hi, ha => by
    refine Ev_succ ?_
    simp only [rubricref14_filter.l0, if_neg (show ¬ (i : Int) < (l.length : Int) by omega)]
    rw [List.drop_of_length_le (by omega), List.filter_nil, List.append_nil]
    exact Ev.now _
  | d + 1, i, acc, hi, ha => by
    have hlt : i < l.length := by omega
    have e2 : wrap64 ((i : Int) + 1) = ((i + 1 : Nat) : Int) := by rw [w64 (x := (i : Int) + 1) (by omega) (by omega)]; omega
    refine Ev_succ ?_
    simp only [rubricref14_filter.l0, if_pos (show (i : Int) < (l.length : Int) by omega), if_pos (show (0 : Int) ≤ (i : Int) by omega), rdOf_get hlt, e2, if_pos (show acc.length < 8796093022208 by omega)]
    rw [List.drop_eq_getElem_cons hlt, List.filter_cons]
    refine Ev.bind (rallows_ev h' n' l' p' l[i] hl' hh) ?_
    cases hc : decide (allowsP h' n' l' l[i]) with
    | true =>
      have ih := rfilter_l0 h n l p h' n' l' p' q hl hl' hh d (i + 1) (acc ++ [l[i]]) (by omega) (by simp only [List.length_append, List.length_singleton]; omega)
      simp only [if_true]
      rwa [List.append_assoc, List.singleton_append] at ih
    | false =>
      have ih := rfilter_l0 h n l p h' n' l' p' q hl hl' hh d (i + 1) acc (by omega) (by omega)
      simpa only [Bool.false_eq_true, if_false] using ih
theorem rfilter_ev (h : Int) (n : ByteArray) (l : List ByteArray) (p : Int) (h' : Int) (n' : ByteArray) (l' : List ByteArray) (p' : Int) (q : Int) (hl : l.length ≤ 1048576) (hl' : l'.length ≤ 1048576) (hh : h' = 1 ∨ h' = 2 ∨ h' = 3) :
    Ev (fun k => rubricref14_filter.f k h n l p h' n' l' p' q) (3, ⟨#[]⟩, l.filter (fun s => decide (allowsP h' n' l' s)), q) := by
  have := rfilter_l0 h n l p h' n' l' p' q hl hl' hh l.length 0 [] (by omega) (by simp only [List.length_nil]; omega)
  rw [List.drop_zero, List.nil_append] at this
  exact this
abbrev R5 := Int × ByteArray × List ByteArray × Int × Bool
/-- What the wildcard of two is: right, with the first one's process, short, and of this meaning. -/
def Is (p : Int) (m : Nat) (f : ByteArray → Prop) (y : R5) : Prop := y.2.2.2.2 = true → rightP y.1 y.2.1 y.2.2.1 y.2.2.2.1 ∧ y.2.2.2.1 = p ∧ y.2.2.1.length ≤ m ∧ ∀ s, allowsP y.1 y.2.1 y.2.2.1 s ↔ f s
theorem is_mk {p : Int} {m : Nat} {f : ByteArray → Prop} {y1 : Int} {y2 : ByteArray} {y3 : List ByteArray} {y4 : Int} {ok : Bool} (hr : rightP y1 y2 y3 y4) (hp : y4 = p) (hm : y3.length ≤ m) (hs : ∀ s, allowsP y1 y2 y3 s ↔ f s) : Is p m f (y1, y2, y3, y4, ok) := fun _ => ⟨hr, hp, hm, hs⟩
def okB (h : Int) (n : ByteArray) (h' : Int) (n' : ByteArray) : Bool := !(decide (h = 2) && decide (h' = 2)) || (decide (n = n') || (decide (n' = ⟨#[]⟩) || decide (n = ⟨#[]⟩)))
theorem right3 {l : List ByteArray} {p : Int} (hp : 1 ≤ p ∧ p ≤ 3) (hr : Rising l) : rightP 3 ⟨#[]⟩ l p := ⟨hp, .inr (.inr ⟨rfl, rfl, setL_of_rising hr⟩)⟩
theorem right2 {n : ByteArray} {p : Int} (hp : 1 ≤ p ∧ p ≤ 3) : rightP 2 n [] p := ⟨hp, .inr (.inl ⟨rfl, rfl⟩)⟩
theorem right1 {p : Int} (hp : 1 ≤ p ∧ p ≤ 3) : rightP 1 ⟨#[]⟩ [] p := ⟨hp, .inl ⟨rfl, rfl, rfl⟩⟩
theorem right_rising {n : ByteArray} {l : List ByteArray} {p : Int} (r : rightP 3 n l p) : Rising l := by
  rcases r.2 with ⟨e, _⟩ | ⟨e, _⟩ | ⟨_, _, e⟩
  · exact absurd e (by decide)
  · exact absurd e (by decide)
  · exact (setL_iff l).1 e
theorem right_p {h : Int} {n : ByteArray} {l : List ByteArray} {p q : Int} (r : rightP h n l p) (hq : 1 ≤ q ∧ q ≤ 3) : rightP h n l q := ⟨hq, r.2⟩
theorem rboth_ev (h : Int) (n : ByteArray) (l : List ByteArray) (p : Int) (h' : Int) (n' : ByteArray) (l' : List ByteArray) (p' : Int) (hl : l.length ≤ 1048576) (hl' : l'.length ≤ 1048576) (ra : rightP h n l p) (rb : rightP h' n' l' p') :
    ∃ y : R5, Ev (fun k => rubricref14_Both.f k h n l p h' n' l' p') y ∧ y.2.2.2.2 = okB h n h' n' ∧ Is p (l.length + l'.length) (fun s => allowsP h n l s ∧ allowsP h' n' l' s) y := by
  have hp := ra.1
  unfold rubricref14_Both.f
  by_cases a1 : h = 1
  · subst a1
    simp only [if_true]
    refine ⟨(h', n', l', p, true), Ev.now _, rfl, is_mk (right_p rb hp) rfl (by omega) (fun s => ?_)⟩
    rw [allows1]
    simp
  simp only [if_neg a1]
  by_cases a2 : h' = 1
  · subst a2
    simp only [if_true]
    refine ⟨(h, n, l, p, true), Ev.now _, by simp [okB], is_mk (ra) rfl (by omega) (fun s => ?_)⟩
    rw [allows1]
    simp
  simp only [if_neg a2]
  by_cases a3 : h = 3
  · subst a3
    simp only [if_true]
    refine ⟨(3, ⟨#[]⟩, l.filter (fun s => decide (allowsP h' n' l' s)), p, true), Ev.bind (rfilter_ev 3 n l p h' n' l' p' p hl hl' (right_h rb)) (Ev.now _), by simp [okB], is_mk (right3 hp (rising_filter (right_rising ra) _)) rfl (Nat.le_trans (List.length_filter_le _ _) (by omega)) (fun s => ?_)⟩
    rw [allows3', allows3', List.mem_filter, decide_eq_true_iff]
  simp only [if_neg a3]
  by_cases a4 : h' = 3
  · subst a4
    simp only [if_true]
    refine ⟨(3, ⟨#[]⟩, l'.filter (fun s => decide (allowsP h n l s)), p, true), Ev.bind (rfilter_ev 3 n' l' p' h n l p p hl' hl (right_h ra)) (Ev.now _), by simp [okB], is_mk (right3 hp (rising_filter (right_rising rb) _)) rfl (Nat.le_trans (List.length_filter_le _ _) (by omega)) (fun s => ?_)⟩
    rw [allows3', allows3', List.mem_filter, decide_eq_true_iff, and_comm]
  simp only [if_neg a4]
  have e1 : h = 2 := by have := right_h ra; omega
  have e2 : h' = 2 := by have := right_h rb; omega
  subst e1 e2
  by_cases a5 : n = n'
  · simp only [if_pos (tl_eq.2 a5)]
    refine ⟨(2, n, l, p, true), Ev_succ ?_, by simp [okB, a5], is_mk (ra) rfl (by omega) (fun s => ?_)⟩
    · simp only [rubricref14_Both.j0, if_true]
      exact Ev.now _
    · rw [allows2, allows2, a5]
      simp
  simp only [if_neg (fun hc => a5 (tl_eq.1 hc))]
  by_cases a6 : n' = ⟨#[]⟩
  · subst a6
    refine ⟨(2, n, l, p, true), Ev_succ ?_, by simp [okB], is_mk (ra) rfl (by omega) (fun s => ?_)⟩
    · simp only [rubricref14_Both.j0, if_pos (show ((⟨#[]⟩ : ByteArray).toList == ([] : List UInt8)) = true from beq_iff_eq.2 (tl_nil.2 rfl))]
      exact Ev.now _
    · rw [allows2, allows2]
      exact ⟨fun hs => ⟨hs, hs.1, hs.1⟩, fun hs => hs.1⟩
  have e3 : (n'.toList == ([] : List UInt8)) = false := beq_eq_false_iff_ne.2 (fun hc => a6 (tl_nil.1 hc))
  by_cases a7 : n = ⟨#[]⟩
  · subst a7
    refine ⟨(2, n', l', p, true), Ev_succ ?_, by simp [okB], is_mk (right_p rb hp) rfl (by omega) (fun s => ?_)⟩
    · simp only [rubricref14_Both.j0, e3, Bool.false_eq_true, if_false, if_pos (tl_nil.2 (rfl : (⟨#[]⟩ : ByteArray) = ⟨#[]⟩))]
      exact Ev.now _
    · rw [allows2, allows2]
      exact ⟨fun hs => ⟨⟨hs.1, hs.1⟩, hs⟩, fun hs => hs.2⟩
  · refine ⟨(0, ⟨#[]⟩, [], 0, false), Ev_succ ?_, by simp [okB, a5, a6, a7], fun hc => by cases hc⟩
    simp only [rubricref14_Both.j0, e3, Bool.false_eq_true, if_false, if_neg (fun hc => a7 (tl_nil.1 hc))]
    exact Ev.now _
theorem rput_l0 (l : List ByteArray) (x : ByteArray) (hl : l.length ≤ 4194304) (hr : Rising l) : ∀ (d i : Nat), i + d = l.length → (∀ (j : Nat) (hj : j < l.length), j < i → lst l[j] < lst x) →
    ∃ r, Ev (fun k => rubricref14_put.l0 k l x (i : Int)) r ∧ Rising r ∧ r.length ≤ l.length + 1 ∧ ∀ s, s ∈ r ↔ s ∈ l ∨ s = x
  | d, i, hi, ha => by
    have ins : (∀ (j : Nat) (hj : j < l.length), i ≤ j → lst x < lst l[j]) → Rising (l.take i ++ [x] ++ l.drop i) ∧ (l.take i ++ [x] ++ l.drop i).length ≤ l.length + 1 ∧ ∀ s, s ∈ l.take i ++ [x] ++ l.drop i ↔ s ∈ l ∨ s = x := by
      intro hb
      refine ⟨?_, ?_, fun s => ?_⟩
      · unfold Rising
        rw [List.map_append, List.map_append, List.pairwise_append]
        have hr1 : ((l.take i).map lst).Pairwise (· < ·) := by rw [List.map_take]; exact List.Pairwise.sublist (List.take_sublist _ _) hr
        have hr2 : ((l.drop i).map lst).Pairwise (· < ·) := by rw [List.map_drop]; exact List.Pairwise.sublist (List.drop_sublist _ _) hr
        have lt1 : ∀ a ∈ (l.take i).map lst, a < lst x := by
          intro a hm
          obtain ⟨b, hb', rfl⟩ := List.mem_map.1 hm
          obtain ⟨j, hj, rfl⟩ := List.mem_iff_getElem.1 hb'
          rw [List.length_take] at hj
          rw [List.getElem_take]
          exact ha j (by omega) (by omega)
        have lt2 : ∀ a ∈ (l.drop i).map lst, lst x < a := by
          intro a hm
          obtain ⟨b, hb', rfl⟩ := List.mem_map.1 hm
          obtain ⟨j, hj, rfl⟩ := List.mem_iff_getElem.1 hb'
          rw [List.length_drop] at hj
          rw [List.getElem_drop]
          exact hb (i + j) (by omega) (by omega)
        refine ⟨?_, hr2, ?_⟩
        · rw [List.pairwise_append]
          refine ⟨hr1, List.pairwise_singleton _ _, fun a ha' b hb' => ?_⟩
          rw [List.map_cons, List.map_nil, List.mem_singleton] at hb'
          rw [hb']
          exact lt1 a ha'
        · intro a ha' b hb'
          rw [List.mem_append] at ha'
          rcases ha' with ha' | ha'
          · exact ll_trans (lt1 a ha') (lt2 b hb')
          · rw [List.map_cons, List.map_nil, List.mem_singleton] at ha'
            rw [ha']
            exact lt2 b hb'
      · simp only [List.length_append, List.length_take, List.length_drop, List.length_singleton]
        omega
      · simp only [List.mem_append, List.mem_singleton]
        have : s ∈ l ↔ s ∈ l.take i ∨ s ∈ l.drop i := by rw [← List.mem_append, List.take_append_drop]
        rw [this]
        constructor
        · rintro ((hh | hh) | hh) <;> simp [hh]
        · rintro ((hh | hh) | hh) <;> simp [hh]
    have tk : ((i : Int)).toNat = i := by omega
    cases d with
    | zero =>
      have hb : ∀ (j : Nat) (hj : j < l.length), i ≤ j → lst x < lst l[j] := fun j hj hij => by omega
      refine ⟨_, Ev_succ ?_, ins hb⟩
      simp only [rubricref14_put.l0, if_neg (show ¬ (i : Int) < (l.length : Int) by omega), Option.bind_some, if_pos (show (0 : Int) ≤ (i : Int) by omega), if_pos (show (i : Int) ≤ (l.length : Int) by omega), tk, List.nil_append, List.length_nil, List.length_take, List.length_append, List.length_singleton, List.length_drop]
      rw [if_pos (show 0 + min i l.length < 8796093022208 by omega), if_pos (show 0 + min i l.length + 1 + (l.length - i) < 8796093022208 by omega), if_pos (show 0 + min i l.length < 8796093022208 by omega)]
      exact Ev.now _
    | succ d =>
      have hlt : i < l.length := by omega
      have e2 : wrap64 ((i : Int) + 1) = ((i + 1 : Nat) : Int) := by rw [w64 (x := (i : Int) + 1) (by omega) (by omega)]; omega
      by_cases hc : lst l[i] < lst x
      · obtain ⟨r, hev, h3⟩ := rput_l0 l x hl hr d (i + 1) (by omega) (fun j hj hji => by
          by_cases e : j = i
          · subst e; exact hc
          · exact ha j hj (by omega))
        refine ⟨r, Ev_succ ?_, h3⟩
        simp only [rubricref14_put.l0, if_pos (show (i : Int) < (l.length : Int) by omega), if_pos (show (0 : Int) ≤ (i : Int) by omega), rdOf_get hlt, bl_eq, decide_eq_true hc, if_true, e2]
        exact hev
      · by_cases he : l[i] = x
        · refine ⟨l, Ev_succ ?_, hr, by omega, fun s => ⟨.inl, fun hh => hh.elim id (fun e => by rw [e, ← he]; exact List.getElem_mem hlt)⟩⟩
          simp only [rubricref14_put.l0, if_pos (show (i : Int) < (l.length : Int) by omega), if_pos (show (0 : Int) ≤ (i : Int) by omega), rdOf_get hlt, bl_eq, decide_eq_false hc, Bool.false_eq_true, if_false, if_pos (tl_eq.2 he)]
          exact Ev.now _
        · have hgt : lst x < lst l[i] := ll_lt_of_le_of_ne (List.not_lt.1 hc) (fun e => he (lst_inj e).symm)
          have hb : ∀ (j : Nat) (hj : j < l.length), i ≤ j → lst x < lst l[j] := fun j hj hij => by
            by_cases e : j = i
            · subst e; exact hgt
            · have := List.pairwise_iff_getElem.1 hr i j (by rw [List.length_map]; omega) (by rw [List.length_map]; omega) (by omega)
              simp only [List.getElem_map] at this
              exact ll_trans hgt this
          refine ⟨_, Ev_succ ?_, ins hb⟩
          simp only [rubricref14_put.l0, if_pos (show (i : Int) < (l.length : Int) by omega), if_pos (show (0 : Int) ≤ (i : Int) by omega), rdOf_get hlt, bl_eq, decide_eq_false hc, Bool.false_eq_true, if_false, if_neg (fun e => he (tl_eq.1 e)), Option.bind_some, if_pos (show (i : Int) ≤ (l.length : Int) by omega), tk, List.nil_append, List.length_nil, List.length_take, List.length_append, List.length_singleton, List.length_drop]
          rw [if_pos (show 0 + min i l.length < 8796093022208 by omega), if_pos (show 0 + min i l.length + 1 + (l.length - i) < 8796093022208 by omega), if_pos (show 0 + min i l.length < 8796093022208 by omega)]
          exact Ev.now _
theorem runion_l0 (p : Int) (h' : Int) (n' : ByteArray) (l' : List ByteArray) (p' : Int) (hl' : l'.length ≤ 1048576) : ∀ (d i : Nat) (acc : List ByteArray), i + d = l'.length → Rising acc → acc.length + d ≤ 2097152 →
    ∃ r, Ev (fun k => rubricref14_Union.l0 k p acc (i : Int) h' n' l' p') (3, ⟨#[]⟩, r, p, true) ∧ Rising r ∧ r.length ≤ acc.length + d ∧ ∀ s, s ∈ r ↔ s ∈ acc ∨ s ∈ l'.drop i
  | 0, i, acc, hi, hr, ha => by
    refine ⟨acc, Ev_succ ?_, hr, by omega, fun s => ?_⟩
    · simp only [rubricref14_Union.l0, if_neg (show ¬ (i : Int) < (l'.length : Int) by omega)]
      exact Ev.now _
    · rw [List.drop_of_length_le (by omega)]
      simp
  | d + 1, i, acc, hi, hr, ha => by
    have hlt : i < l'.length := by omega
    have e2 : wrap64 ((i : Int) + 1) = ((i + 1 : Nat) : Int) := by rw [w64 (x := (i : Int) + 1) (by omega) (by omega)]; omega
    obtain ⟨m, hm, hmr, hml, hms⟩ := rput_l0 acc l'[i] (by omega) hr acc.length 0 (by omega) (fun j hj hji => by omega)
    obtain ⟨r, he, hrr, hrl, hrs⟩ := runion_l0 p h' n' l' p' hl' d (i + 1) m (by omega) hmr (by omega)
    refine ⟨r, Ev_succ ?_, hrr, by omega, fun s => ?_⟩
    · simp only [rubricref14_Union.l0, if_pos (show (i : Int) < (l'.length : Int) by omega), if_pos (show (0 : Int) ≤ (i : Int) by omega), rdOf_get hlt, e2]
      exact Ev.bind hm he
    · rw [hrs, hms, List.drop_eq_getElem_cons hlt, List.mem_cons, or_assoc]
def okU (h : Int) (n : ByteArray) (l : List ByteArray) (h' : Int) (n' : ByteArray) (l' : List ByteArray) : Bool :=
  if h = 2 ∧ h' = 3 then !decide ((⟨#[]⟩ : ByteArray) ∈ l') || (decide (n = ⟨#[]⟩) || decide (n ∈ l')) else if h = 3 ∧ h' = 2 then !decide ((⟨#[]⟩ : ByteArray) ∈ l) || (decide (n' = ⟨#[]⟩) || decide (n' ∈ l)) else true
/-- One of others, one of these. -/
theorem rmixed (p : Int) (n : ByteArray) (q : Int) (n' : ByteArray) (l' : List ByteArray) (p' : Int) (hl' : l'.length ≤ 1048576) (hp : 1 ≤ p ∧ p ≤ 3) :
    ∃ y : R5, Ev (fun k => rubricref14_Union.j4 k p 2 n [] q 3 n' l' p') y ∧ y.2.2.2.2 = (!decide ((⟨#[]⟩ : ByteArray) ∈ l') || (decide (n = ⟨#[]⟩) || decide (n ∈ l'))) ∧ Is p 0 (fun s => (s ≠ ⟨#[]⟩ ∧ s ≠ n) ∨ s ∈ l') y := by
  have e1 : decide (allowsP 3 n' l' ⟨#[]⟩) = decide ((⟨#[]⟩ : ByteArray) ∈ l') := decide_eq_decide.2 (allows3' _ _ _)
  have e2 : decide (allowsP 3 n' l' n) = decide (n ∈ l') := decide_eq_decide.2 (allows3' _ _ _)
  have k1 := rallows_ev 3 n' l' p' ⟨#[]⟩ hl' (.inr (.inr rfl))
  have k2 := rallows_ev 3 n' l' p' n hl' (.inr (.inr rfl))
  rw [e1] at k1
  rw [e2] at k2
  -- the tail: none, not
  have tail : ∀ a b : Bool, a = decide ((⟨#[]⟩ : ByteArray) ∈ l') → b = (decide (n = ⟨#[]⟩) || decide (n ∈ l')) →
      ∃ y : R5, Ev (fun k => rubricref14_Union.j5 k p a b 2 n [] q) y ∧ y.2.2.2.2 = (!a || b) ∧ Is p 0 (fun s => (s ≠ ⟨#[]⟩ ∧ s ≠ n) ∨ s ∈ l') y := by
    intro a b ha hb
    cases a with
    | true =>
      have h0 : (⟨#[]⟩ : ByteArray) ∈ l' := of_decide_eq_true ha.symm
      cases b with
      | true =>
        have hn : n = ⟨#[]⟩ ∨ n ∈ l' := by
          have := hb.symm
          rw [Bool.or_eq_true, decide_eq_true_iff, decide_eq_true_iff] at this
          exact this
        refine ⟨(1, ⟨#[]⟩, [], p, true), Ev_succ (Ev_succ ?_), rfl, is_mk (right1 hp) rfl (Nat.le_refl _) (fun s => ?_)⟩
        · simp only [rubricref14_Union.j5, if_true]
          refine Ev_succ ?_
          simp only [rubricref14_Union.j6, if_true]
          exact Ev.now _
        · rw [allows1]
          refine ⟨fun _ => ?_, fun _ => trivial⟩
          by_cases s0 : s = ⟨#[]⟩
          · exact .inr (by rw [s0]; exact h0)
          · by_cases s1 : s = n
            · refine .inr ?_
              rw [s1]
              exact hn.elim (fun e => by rw [e]; exact h0) id
            · exact .inl ⟨s0, s1⟩
      | false =>
        refine ⟨(0, ⟨#[]⟩, [], 0, false), Ev_succ (Ev_succ ?_), rfl, fun hc => by cases hc⟩
        simp only [rubricref14_Union.j5, if_true]
        refine Ev_succ ?_
        simp only [rubricref14_Union.j6, Bool.false_eq_true, if_false, if_true]
        exact Ev.now _
    | false =>
      have h0 : (⟨#[]⟩ : ByteArray) ∉ l' := of_decide_eq_false ha.symm
      have nz : ∀ s, s ∈ l' → s ≠ ⟨#[]⟩ := fun s hs e => h0 (by rw [← e]; exact hs)
      cases b with
      | true =>
        have hn : n = ⟨#[]⟩ ∨ n ∈ l' := by
          have := hb.symm
          rw [Bool.or_eq_true, decide_eq_true_iff, decide_eq_true_iff] at this
          exact this
        refine ⟨(2, ⟨#[]⟩, [], p, true), Ev_succ (Ev_succ ?_), rfl, is_mk (right2 hp) rfl (Nat.le_refl _) (fun s => ?_)⟩
        · simp only [rubricref14_Union.j5, Bool.false_eq_true, if_false]
          refine Ev_succ ?_
          simp only [rubricref14_Union.j6, Bool.false_eq_true, if_false, if_true]
          exact Ev.now _
        · rw [allows2]
          constructor
          · intro hs
            by_cases s1 : s = n
            · exact .inr (hn.elim (fun e => absurd (s1.trans e) hs.1) (fun e => by rw [s1]; exact e))
            · exact .inl ⟨hs.1, s1⟩
          · rintro (hs | hs)
            · exact ⟨hs.1, hs.1⟩
            · exact ⟨nz s hs, nz s hs⟩
      | false =>
        have hn : n ∉ l' := by
          have := hb.symm
          rw [Bool.or_eq_false_iff, decide_eq_false_iff_not, decide_eq_false_iff_not] at this
          exact this.2
        refine ⟨(2, n, [], p, true), Ev_succ (Ev_succ ?_), rfl, is_mk (right2 hp) rfl (Nat.le_refl _) (fun s => ?_)⟩
        · simp only [rubricref14_Union.j5, Bool.false_eq_true, if_false]
          refine Ev_succ ?_
          simp only [rubricref14_Union.j6, Bool.false_eq_true, if_false]
          exact Ev.now _
        · rw [allows2]
          exact ⟨.inl, fun hs => hs.elim id (fun hs => ⟨nz s hs, fun e => hn (by rw [← e]; exact hs)⟩)⟩
  by_cases a1 : n = ⟨#[]⟩
  · obtain ⟨y, hy, ho, hi⟩ := tail _ true rfl (by rw [decide_eq_true a1]; rfl)
    refine ⟨y, Ev_succ ?_, by rw [ho, decide_eq_true a1]; rfl, hi⟩
    simp only [rubricref14_Union.j4, if_pos (tl_nil.2 a1)]
    exact Ev.bind k1 hy
  · obtain ⟨y, hy, ho, hi⟩ := tail _ (decide (n ∈ l')) rfl (by rw [decide_eq_false a1]; rfl)
    refine ⟨y, Ev_succ ?_, by rw [ho, decide_eq_false a1, Bool.false_or], hi⟩
    simp only [rubricref14_Union.j4, if_neg (fun hc => a1 (tl_nil.1 hc))]
    exact Ev.bind k1 (Ev.bind k2 hy)
theorem right2_nil {n : ByteArray} {l : List ByteArray} {p : Int} (r : rightP 2 n l p) : l = [] := by
  rcases r.2 with ⟨e, _⟩ | ⟨_, e⟩ | ⟨e, _⟩
  · exact absurd e (by decide)
  · exact e
  · exact absurd e (by decide)
theorem Is.le {p : Int} {m m' : Nat} {f f' : ByteArray → Prop} {y : R5} (h : Is p m f y) (hm : m ≤ m') (hf : ∀ s, f s ↔ f' s) : Is p m' f' y := fun hy => by
  obtain ⟨h1, h2, h3, h4⟩ := h hy
  exact ⟨h1, h2, Nat.le_trans h3 hm, fun s => (h4 s).trans (hf s)⟩
theorem runion_ev (h : Int) (n : ByteArray) (l : List ByteArray) (p : Int) (h' : Int) (n' : ByteArray) (l' : List ByteArray) (p' : Int) (hl : l.length ≤ 1048576) (hl' : l'.length ≤ 1048576) (ra : rightP h n l p) (rb : rightP h' n' l' p') :
    ∃ y : R5, Ev (fun k => rubricref14_Union.f k h n l p h' n' l' p') y ∧ y.2.2.2.2 = okU h n l h' n' l' ∧ Is p (l.length + l'.length) (fun s => allowsP h n l s ∨ allowsP h' n' l' s) y := by
  have hp := ra.1
  have every : h = 1 ∨ h' = 1 → ∃ y : R5, Ev (fun k => rubricref14_Union.j0 k p true h n l p h' n' l' p') y ∧ y.2.2.2.2 = okU h n l h' n' l' ∧ Is p (l.length + l'.length) (fun s => allowsP h n l s ∨ allowsP h' n' l' s) y := by
    intro hc
    refine ⟨(1, ⟨#[]⟩, [], p, true), Ev_succ ?_, ?_, is_mk (right1 hp) rfl (Nat.zero_le _) (fun s => ?_)⟩
    · simp only [rubricref14_Union.j0, if_true]
      exact Ev.now _
    · unfold okU
      rw [if_neg (by omega), if_neg (by omega)]
    · rw [allows1]
      refine ⟨fun _ => ?_, fun _ => trivial⟩
      rcases hc with rfl | rfl
      · exact .inl ((allows1 _ _ _).2 trivial)
      · exact .inr ((allows1 _ _ _).2 trivial)
  unfold rubricref14_Union.f
  by_cases a1 : h = 1
  · simp only [if_pos a1]
    exact every (.inl a1)
  simp only [if_neg a1]
  by_cases a2 : h' = 1
  · have e : (h' == 1) = true := beq_iff_eq.2 a2
    simp only [e]
    exact every (.inr a2)
  have e : (h' == 1) = false := beq_eq_false_iff_ne.2 a2
  simp only [e]
  have ha := right_h ra
  have hb := right_h rb
  have c1 : h = 2 ∨ h = 3 := by omega
  have c2 : h' = 2 ∨ h' = 3 := by omega
  rcases c1 with rfl | rfl
  · obtain rfl := right2_nil ra
    rcases c2 with rfl | rfl
    · obtain rfl := right2_nil rb
      by_cases a3 : n = n'
      · refine ⟨(2, n, [], p, true), Ev_succ (Ev_succ (Ev_succ ?_)), rfl, is_mk (ra) rfl (Nat.zero_le _) (fun s => ?_)⟩
        · simp only [rubricref14_Union.j0, rubricref14_Union.j1, rubricref14_Union.j3, Bool.false_eq_true, if_false, if_neg (show ¬ (2 : Int) = 3 by decide), if_true, beq_self_eq_true, if_pos (tl_eq.2 a3)]
          exact Ev.now _
        · rw [a3]
          simp
      · refine ⟨(2, ⟨#[]⟩, [], p, true), Ev_succ (Ev_succ (Ev_succ ?_)), rfl, is_mk (right2 hp) rfl (Nat.zero_le _) (fun s => ?_)⟩
        · simp only [rubricref14_Union.j0, rubricref14_Union.j1, rubricref14_Union.j3, Bool.false_eq_true, if_false, if_neg (show ¬ (2 : Int) = 3 by decide), if_true, beq_self_eq_true, if_neg (fun hc => a3 (tl_eq.1 hc))]
          exact Ev.now _
        · show allowsP 2 ⟨#[]⟩ [] s ↔ allowsP 2 n [] s ∨ allowsP 2 n' [] s
          rw [allows2, allows2, allows2]
          constructor
          · intro hs
            by_cases s1 : s = n
            · exact .inr ⟨hs.1, fun e => a3 (s1.symm.trans e)⟩
            · exact .inl ⟨hs.1, s1⟩
          · rintro (hs | hs) <;> exact ⟨hs.1, hs.1⟩
    · obtain ⟨y, hy, ho, hi⟩ := rmixed p n p n' l' p' hl' hp
      refine ⟨y, Ev_succ (Ev_succ (Ev_succ ?_)), ?_, hi.le (by omega) (fun s => by rw [allows2, allows3'])⟩
      · simp only [rubricref14_Union.j0, rubricref14_Union.j1, rubricref14_Union.j3, Bool.false_eq_true, if_false, if_neg (show ¬ (2 : Int) = 3 by decide), if_true, show ((3 : Int) == 2) = false by decide]
        exact hy
      · rw [ho]
        unfold okU
        rw [if_pos ⟨rfl, rfl⟩]
  · rcases c2 with rfl | rfl
    · obtain rfl := right2_nil rb
      obtain ⟨y, hy, ho, hi⟩ := rmixed p n' p' n l p hl hp
      refine ⟨y, Ev_succ (Ev_succ (Ev_succ ?_)), ?_, hi.le (by omega) (fun s => by rw [allows2, allows3', or_comm])⟩
      · simp only [rubricref14_Union.j0, rubricref14_Union.j1, rubricref14_Union.j3, Bool.false_eq_true, if_false, if_neg (show ¬ (3 : Int) = 2 by decide), if_true, show ((2 : Int) == 3) = false by decide]
        exact hy
      · rw [ho]
        unfold okU
        rw [if_neg (by omega), if_pos ⟨rfl, rfl⟩]
    · obtain ⟨r, hr, h1, h2, h3⟩ := runion_l0 p 3 n' l' p' hl' l'.length 0 l (by omega) (right_rising ra) (by omega)
      rw [List.drop_zero] at h3
      refine ⟨(3, ⟨#[]⟩, r, p, true), Ev_succ (Ev_succ ?_), rfl, is_mk (right3 hp h1) rfl (by omega) (fun s => ?_)⟩
      · simp only [rubricref14_Union.j0, rubricref14_Union.j1, Bool.false_eq_true, if_false, if_true, beq_self_eq_true]
        exact hr
      · rw [allows3', allows3', allows3', h3]

end Go.Proofs.Ytfpedicgeepikaa.B

namespace Go.Proofs.Ytfpedicgeepikaa.B
open Go.RowKit Go.Proofs.Ytfpedicgeepikaa Go.Proofs.Ytfpedicgeepikaa.G Go.Proofs.Ytfpedicgeepikaa.Pr Go.Proofs.YtfpedicgeepikaaW.PrintWords Go.Proofs.YtfpedicgeepikaaW.PrintLast
set_option linter.unusedVariables false
set_option linter.unusedSimpArgs false
/-! ### The two answers are one -/
theorem say_right (others : Bool) (p : Int) (ins outs : List ByteArray) (hp : 1 ≤ p ∧ p ≤ 3) : (sayP others p ins outs).2.2.2.2 = true → rightP (sayP others p ins outs).1 (sayP others p ins outs).2.1 (sayP others p ins outs).2.2.1 (sayP others p ins outs).2.2.2.1 ∧ (sayP others p ins outs).2.2.2.1 = p := by
  unfold sayP
  cases others with
  | false =>
    simp only [Bool.false_eq_true, if_false]
    exact fun _ => ⟨right3 hp (rising_setL ins), trivial⟩
  | true =>
    simp only [if_true]
    match outs with
    | [] => exact fun _ => ⟨right1 hp, rfl⟩
    | o :: os =>
      simp only
      by_cases e : o = ⟨#[]⟩
      · simp only [if_pos e]
        match os with
        | [] => exact fun _ => ⟨right2 hp, rfl⟩
        | [o2] => exact fun _ => ⟨right2 hp, rfl⟩
        | _ :: _ :: _ => exact fun hc => by cases hc
      · simp only [if_neg e]
        exact fun hc => by cases hc
theorem say_ok (p : Int) (ins outs : List ByteArray) (hr : Rising outs) : (sayP true p ins outs).2.2.2.2 = true ↔ outs = [] ∨ ((⟨#[]⟩ : ByteArray) ∈ outs ∧ ∃ m, ∀ s ∈ outs, s = ⟨#[]⟩ ∨ s = m) := by
  unfold sayP
  simp only [if_true]
  match outs, hr with
  | [], _ => simp
  | o :: os, hr =>
    have hr0 := hr
    unfold Rising at hr
    rw [List.map_cons, List.pairwise_cons] at hr
    simp only
    by_cases e : o = ⟨#[]⟩
    · subst e
      simp only [if_true]
      match os, hr with
      | [], _ => exact ⟨fun _ => .inr ⟨List.mem_cons_self, ⟨#[]⟩, fun s hs => .inl (by simpa using hs)⟩, fun _ => rfl⟩
      | [o2], _ => exact ⟨fun _ => .inr ⟨List.mem_cons_self, o2, fun s hs => by simpa using hs⟩, fun _ => rfl⟩
      | o2 :: o3 :: rest, hr =>
        refine ⟨fun hc => (by cases hc), fun hc => ?_⟩
        rcases hc with hc | ⟨_, m, hm⟩
        · cases hc
        · exfalso
          obtain ⟨h1, h2⟩ := hr
          rw [List.map_cons, List.pairwise_cons] at h2
          have l1 := h1 (lst o2) (by simp)
          have l2 := h1 (lst o3) (by simp)
          have l3 := h2.1 (lst o3) (by simp)
          have e2 := hm o2 (by simp)
          have e3 := hm o3 (by simp)
          rcases e2 with e2 | e2
          · rw [e2] at l1; exact ll_irrefl _ l1
          · rcases e3 with e3 | e3
            · rw [e3] at l2; exact ll_irrefl _ l2
            · rw [e2, e3] at l3; exact ll_irrefl _ l3
    · simp only [if_neg e]
      refine ⟨fun hc => (by cases hc), fun hc => ?_⟩
      rcases hc with hc | ⟨hm, _⟩
      · cases hc
      · exfalso
        rcases List.mem_cons.1 hm with hc | hc
        · exact e hc.symm
        · have := hr.1 (lst ⟨#[]⟩) (List.mem_map.2 ⟨_, hc, rfl⟩)
          exact List.not_lt_nil _ this
theorem bothP_right {h : Int} {n : ByteArray} {l : List ByteArray} {p : Int} {h' : Int} {n' : ByteArray} {l' : List ByteArray} (hp : 1 ≤ p ∧ p ≤ 3) (hok : (bothP h n l p h' n' l').2.2.2.2 = true) :
    Is p (l.length + l'.length + 3) (fun s => allowsP h n l s ∧ allowsP h' n' l' s) (bothP h n l p h' n' l') := fun _ => by
  have := say_right _ p _ _ hp hok
  exact ⟨this.1, this.2, both_len h n l p h' n' l', both_sem h n l p h' n' l' hok⟩
theorem unionP_right {h : Int} {n : ByteArray} {l : List ByteArray} {p : Int} {h' : Int} {n' : ByteArray} {l' : List ByteArray} (hp : 1 ≤ p ∧ p ≤ 3) (hok : (unionP h n l p h' n' l').2.2.2.2 = true) :
    Is p (l.length + l'.length + 3) (fun s => allowsP h n l s ∨ allowsP h' n' l' s) (unionP h n l p h' n' l') := fun _ => by
  have := say_right _ p _ _ hp hok
  exact ⟨this.1, this.2, union_len h n l p h' n' l', union_sem h n l p h' n' l' hok⟩
theorem rising_spec (n : ByteArray) (l : List ByteArray) (n' : ByteArray) (l' : List ByteArray) (f : ByteArray → Bool) : Rising ((specL n l n' l').filter f) := rising_filter (rising_setL _) f
theorem both_ok (h : Int) (n : ByteArray) (l : List ByteArray) (p : Int) (h' : Int) (n' : ByteArray) (l' : List ByteArray) (p' : Int) (ra : rightP h n l p) (rb : rightP h' n' l' p') : (bothP h n l p h' n' l').2.2.2.2 = okB h n h' n' := by
  have ha := right_h ra
  have hb := right_h rb
  by_cases ho : (h = 1 ∨ h = 2) ∧ (h' = 1 ∨ h' = 2)
  · have eo : (decide (h = 1 ∨ h = 2) && decide (h' = 1 ∨ h' = 2)) = true := by rw [decide_eq_true ho.1, decide_eq_true ho.2]; rfl
    unfold bothP
    rw [eo, Bool.eq_iff_iff, say_ok _ _ _ (rising_spec n l n' l' _)]
    have mem : ∀ s, s ∈ ((specL n l n' l').filter fun s => !(decide (allowsP h n l s) && decide (allowsP h' n' l' s))) ↔ (s = ⟨#[]⟩ ∨ s ∈ l ∨ s = n ∨ s ∈ l' ∨ s = n') ∧ ¬ (allowsP h n l s ∧ allowsP h' n' l' s) := by
      intro s
      rw [List.mem_filter, mem_specL, Bool.not_eq_true', Bool.and_eq_false_iff, decide_eq_false_iff_not, decide_eq_false_iff_not, Decidable.not_and_iff_not_or_not]
    generalize ((specL n l n' l').filter fun s => !(decide (allowsP h n l s) && decide (allowsP h' n' l' s))) = outs at mem
    rcases ho.1 with rfl | rfl
    · rcases ho.2 with rfl | rfl
      · refine ⟨fun _ => by simp [okB], fun _ => .inl (List.eq_nil_iff_forall_not_mem.2 fun s hs => ((mem s).1 hs).2 ⟨(allows1 _ _ _).2 trivial, (allows1 _ _ _).2 trivial⟩)⟩
      · refine ⟨fun _ => by simp [okB], fun _ => .inr ⟨(mem _).2 ⟨.inl rfl, fun hc => ((allows2 _ _ _).1 hc.2).1 rfl⟩, n', fun s hs => ?_⟩⟩
        have := ((mem s).1 hs).2
        rw [allows1, allows2] at this
        by_cases e : s = ⟨#[]⟩
        · exact .inl e
        · exact .inr (Decidable.byContradiction fun e2 => this ⟨trivial, e, e2⟩)
    · rcases ho.2 with rfl | rfl
      · refine ⟨fun _ => by simp [okB], fun _ => .inr ⟨(mem _).2 ⟨.inl rfl, fun hc => ((allows2 _ _ _).1 hc.1).1 rfl⟩, n, fun s hs => ?_⟩⟩
        have := ((mem s).1 hs).2
        rw [allows1, allows2] at this
        by_cases e : s = ⟨#[]⟩
        · exact .inl e
        · exact .inr (Decidable.byContradiction fun e2 => this ⟨⟨e, e2⟩, trivial⟩)
      · have m0 : (⟨#[]⟩ : ByteArray) ∈ outs := (mem _).2 ⟨.inl rfl, fun hc => ((allows2 _ _ _).1 hc.1).1 rfl⟩
        have m1 : n ∈ outs := (mem _).2 ⟨.inr (.inr (.inl rfl)), fun hc => ((allows2 _ _ _).1 hc.1).2 rfl⟩
        have m2 : n' ∈ outs := (mem _).2 ⟨.inr (.inr (.inr (.inr rfl))), fun hc => ((allows2 _ _ _).1 hc.2).2 rfl⟩
        have ho2 : okB 2 n 2 n' = true ↔ n = n' ∨ n' = ⟨#[]⟩ ∨ n = ⟨#[]⟩ := by simp [okB]
        rw [ho2]
        have all : ∀ s ∈ outs, s = ⟨#[]⟩ ∨ s = n ∨ s = n' := by
          intro s hs
          have := ((mem s).1 hs).2
          rw [allows2, allows2] at this
          by_cases e0 : s = ⟨#[]⟩
          · exact .inl e0
          · by_cases e1 : s = n
            · exact .inr (.inl e1)
            · exact .inr (.inr (Decidable.byContradiction fun e2 => this ⟨⟨e0, e1⟩, e0, e2⟩))
        constructor
        · rintro (hc | ⟨_, m, hm⟩)
          · rw [hc] at m0; cases m0
          · rcases hm n m1 with e1 | e1
            · exact .inr (.inr e1)
            · rcases hm n' m2 with e2 | e2
              · exact .inr (.inl e2)
              · exact .inl (e1.trans e2.symm)
        · intro hc
          refine .inr ⟨m0, ?_⟩
          rcases hc with hc | hc | hc
          · exact ⟨n, fun s hs => by rcases all s hs with e | e | e <;> simp [e, hc]⟩
          · exact ⟨n, fun s hs => by rcases all s hs with e | e | e <;> simp [e, hc]⟩
          · exact ⟨n', fun s hs => by rcases all s hs with e | e | e <;> simp [e, hc]⟩
  · have eo : (decide (h = 1 ∨ h = 2) && decide (h' = 1 ∨ h' = 2)) = false := by
      rw [Bool.and_eq_false_iff, decide_eq_false_iff_not, decide_eq_false_iff_not]
      omega
    unfold bothP
    rw [eo]
    have : okB h n h' n' = true := by
      unfold okB
      have : (decide (h = 2) && decide (h' = 2)) = false := by
        rw [Bool.and_eq_false_iff, decide_eq_false_iff_not, decide_eq_false_iff_not]
        omega
      rw [this]
      rfl
    rw [this]
    rfl
theorem mixed_ok (n : ByteArray) (l : List ByteArray) (n' : ByteArray) (l' : List ByteArray) (outs : List ByteArray) (mem : ∀ s, s ∈ outs ↔ (s = ⟨#[]⟩ ∨ s ∈ l ∨ s = n ∨ s ∈ l' ∨ s = n') ∧ ¬ (allowsP 2 n l s ∨ allowsP 3 n' l' s)) (hl : l = []) :
    (outs = [] ∨ ((⟨#[]⟩ : ByteArray) ∈ outs ∧ ∃ m, ∀ s ∈ outs, s = ⟨#[]⟩ ∨ s = m)) ↔ okU 2 n l 3 n' l' = true := by
  have e : okU 2 n l 3 n' l' = true ↔ (⟨#[]⟩ : ByteArray) ∉ l' ∨ n = ⟨#[]⟩ ∨ n ∈ l' := by
    unfold okU
    rw [if_pos ⟨rfl, rfl⟩, Bool.or_eq_true, Bool.or_eq_true, Bool.not_eq_true', decide_eq_false_iff_not, decide_eq_true_iff, decide_eq_true_iff]
  rw [e]
  have all : ∀ s, s ∈ outs ↔ (s = ⟨#[]⟩ ∨ s = n) ∧ s ∉ l' := by
    intro s
    rw [mem s, allows2, allows3', hl]
    constructor
    · rintro ⟨h1, h2⟩
      have h3 : s ∉ l' := fun hc => h2 (.inr hc)
      refine ⟨Decidable.byContradiction fun hc => h2 (.inl ⟨fun e => hc (.inl e), fun e => hc (.inr e)⟩), h3⟩
    · rintro ⟨h1, h2⟩
      refine ⟨h1.elim .inl (fun e => .inr (.inr (.inl e))), fun hc => ?_⟩
      rcases hc with hc | hc
      · exact h1.elim hc.1 hc.2
      · exact h2 hc
  constructor
  · rintro (hc | ⟨h0, _⟩)
    · refine Decidable.byContradiction fun hn => ?_
      rw [not_or, not_or] at hn
      have : n ∈ outs := (all n).2 ⟨.inr rfl, hn.2.2⟩
      rw [hc] at this
      cases this
    · exact .inl ((all _).1 h0).2
  · intro hc
    by_cases h0 : (⟨#[]⟩ : ByteArray) ∈ l'
    · left
      refine List.eq_nil_iff_forall_not_mem.2 fun s hs => ?_
      obtain ⟨h1, h2⟩ := (all s).1 hs
      rcases h1 with rfl | rfl
      · exact h2 h0
      · rcases hc with hc | hc | hc
        · exact hc h0
        · rw [hc] at h2; exact h2 h0
        · exact h2 hc
    · exact .inr ⟨(all _).2 ⟨.inl rfl, h0⟩, n, fun s hs => ((all s).1 hs).1⟩
theorem union_ok (h : Int) (n : ByteArray) (l : List ByteArray) (p : Int) (h' : Int) (n' : ByteArray) (l' : List ByteArray) (p' : Int) (ra : rightP h n l p) (rb : rightP h' n' l' p') : (unionP h n l p h' n' l').2.2.2.2 = okU h n l h' n' l' := by
  have ha := right_h ra
  have hb := right_h rb
  by_cases ho : (h = 1 ∨ h = 2) ∨ (h' = 1 ∨ h' = 2)
  · have eo : (decide (h = 1 ∨ h = 2) || decide (h' = 1 ∨ h' = 2)) = true := by
      rw [Bool.or_eq_true, decide_eq_true_iff, decide_eq_true_iff]
      exact ho
    unfold unionP
    rw [eo, Bool.eq_iff_iff, say_ok _ _ _ (rising_spec n l n' l' _)]
    have mem : ∀ s, s ∈ ((specL n l n' l').filter fun s => !(decide (allowsP h n l s) || decide (allowsP h' n' l' s))) ↔ (s = ⟨#[]⟩ ∨ s ∈ l ∨ s = n ∨ s ∈ l' ∨ s = n') ∧ ¬ (allowsP h n l s ∨ allowsP h' n' l' s) := by
      intro s
      rw [List.mem_filter, mem_specL, Bool.not_eq_true', Bool.or_eq_false_iff, decide_eq_false_iff_not, decide_eq_false_iff_not, not_or]
    generalize ((specL n l n' l').filter fun s => !(decide (allowsP h n l s) || decide (allowsP h' n' l' s))) = outs at mem
    by_cases hone : h = 1 ∨ h' = 1
    · have : okU h n l h' n' l' = true := by
        unfold okU
        rw [if_neg (by omega), if_neg (by omega)]
      rw [this]
      refine ⟨fun _ => rfl, fun _ => .inl (List.eq_nil_iff_forall_not_mem.2 fun s hs => ((mem s).1 hs).2 ?_)⟩
      rcases hone with rfl | rfl
      · exact .inl ((allows1 _ _ _).2 trivial)
      · exact .inr ((allows1 _ _ _).2 trivial)
    · have c : (h = 2 ∧ h' = 2) ∨ (h = 2 ∧ h' = 3) ∨ (h = 3 ∧ h' = 2) := by omega
      rcases c with ⟨rfl, rfl⟩ | ⟨rfl, rfl⟩ | ⟨rfl, rfl⟩
      · have : okU 2 n l 2 n' l' = true := by
          unfold okU
          rw [if_neg (by omega), if_neg (by omega)]
        rw [this]
        refine ⟨fun _ => rfl, fun _ => .inr ⟨(mem _).2 ⟨.inl rfl, fun hc => hc.elim (fun hc => ((allows2 _ _ _).1 hc).1 rfl) (fun hc => ((allows2 _ _ _).1 hc).1 rfl)⟩, n, fun s hs => ?_⟩⟩
        have := ((mem s).1 hs).2
        rw [allows2, allows2] at this
        by_cases e : s = ⟨#[]⟩
        · exact .inl e
        · exact .inr (Decidable.byContradiction fun e2 => this (.inl ⟨e, e2⟩))
      · exact mixed_ok n l n' l' outs mem (right2_nil ra)
      · have hh := mixed_ok n' l' n l outs (fun s => by
          rw [mem s]
          constructor
          · rintro ⟨h1, h2⟩
            exact ⟨by rcases h1 with h1 | h1 | h1 | h1 | h1 <;> simp [h1], fun hc => h2 hc.symm⟩
          · rintro ⟨h1, h2⟩
            exact ⟨by rcases h1 with h1 | h1 | h1 | h1 | h1 <;> simp [h1], fun hc => h2 hc.symm⟩) (right2_nil rb)
        rw [hh]
        simp [okU]
  · have eo : (decide (h = 1 ∨ h = 2) || decide (h' = 1 ∨ h' = 2)) = false := by
      rw [Bool.or_eq_false_iff, decide_eq_false_iff_not, decide_eq_false_iff_not]
      omega
    unfold unionP
    rw [eo]
    have : okU h n l h' n' l' = true := by
      unfold okU
      rw [if_neg (by omega), if_neg (by omega)]
    rw [this]
    rfl

end Go.Proofs.Ytfpedicgeepikaa.B

namespace Go.Proofs.Ytfpedicgeepikaa.B
open Go.RowKit Go.Proofs.Ytfpedicgeepikaa Go.Proofs.Ytfpedicgeepikaa.G Go.Proofs.Ytfpedicgeepikaa.Pr Go.Proofs.YtfpedicgeepikaaW.PrintWords Go.Proofs.YtfpedicgeepikaaW.PrintLast
set_option linter.unusedVariables false
set_option linter.unusedSimpArgs false
/-! ### WildPairs: each way's walk with what the functions answer -/
theorem le_sum : ∀ {L : List Nat} {j : Nat}, j ∈ L → j ≤ L.sum
  | a :: L, j, h => by
    rw [List.sum_cons]
    rcases List.mem_cons.1 h with h | h
    · omega
    · have := le_sum h
      omega
theorem pairs_true (h : Int) (n : ByteArray) (A : Option Addr) (c : Nat) (l : List ByteArray) (p : Int) (h' : Int) (n' : ByteArray) (A' : Option Addr) (c' : Nat) (l' : List ByteArray) (p' : Int) (s : ByteArray) (w : World) (ka : CS w A c l) (kb : CS w A' c' l') :
    Calls Try.prog 5 #[.agg #[.int .i64 h, .string n, .slice A l.length c, .int .i64 p], .agg #[.int .i64 h', .string n', .slice A' l'.length c', .int .i64 p'], .string s] w fun e w' => e = .returned (.bool true) ∧ Below w.heap.size w w' := by
  obtain ⟨K0, e0⟩ := known_ev
  obtain ⟨fa, ⟨K1, e1⟩, la⟩ := few_ev h n l p
  obtain ⟨fb, ⟨K2, e2⟩, lb⟩ := few_ev h' n' l' p'
  cases fa with
  | false => exact pairs_few0 (K0 + K1) h n A c l p h' n' A' c' l' p' s w ka kb (e0 _ (by omega)) (e1 _ (by omega))
  | true =>
  have la := la rfl
  cases fb with
  | false => exact pairs_few1 (K0 + K1 + K2) h n A c l p h' n' A' c' l' p' s w ka kb (e0 _ (by omega)) (e1 _ (by omega)) (e2 _ (by omega))
  | true =>
  have lb := lb rfl
  by_cases hs : 300 < s.size
  · exact pairs_long (K0 + K1 + K2) h n A c l p h' n' A' c' l' p' s w ka kb (decide_eq_true hs) (decide_eq_true (by omega)) (e0 _ (by omega)) (e1 _ (by omega)) (e2 _ (by omega))
  have s1 : decide (300 < s.size) = false := decide_eq_false hs
  have s2 : decide (300 < (s.size : Int)) = false := decide_eq_false (by omega)
  obtain ⟨K3, e3⟩ := right_ev h n l p (by omega)
  obtain ⟨K4, e4⟩ := rright_ev h n l p (by omega)
  obtain ⟨K5, e5⟩ := right_ev h' n' l' p' (by omega)
  obtain ⟨K6, e6⟩ := rright_ev h' n' l' p' (by omega)
  by_cases ra : rightP h n l p
  · rw [decide_eq_true ra] at e3 e4
    by_cases rb : rightP h' n' l' p'
    · rw [decide_eq_true rb] at e5 e6
      have ha := right_h ra
      have hb := right_h rb
      obtain ⟨Y, ⟨K8, e8⟩, oy, iy⟩ := rboth_ev h n l p h' n' l' p' (by omega) (by omega) ra rb
      obtain ⟨Q, ⟨K10, e10⟩, oq, iq⟩ := runion_ev h n l p h' n' l' p' (by omega) (by omega) ra rb
      obtain ⟨K7, e7⟩ := both_ev h n l p h' n' l' p' (by omega) (by omega)
      obtain ⟨K9, e9⟩ := union_ev h n l p h' n' l' p' (by omega) (by omega)
      have ox := both_ok h n l p h' n' l' p' ra rb
      have op := union_ok h n l p h' n' l' p' ra rb
      have ix := bothP_right (h := h) (n := n) (l := l) (h' := h') (n' := n') (l' := l') ra.1
      have ip := unionP_right (h := h) (n := n) (l := l) (h' := h') (n' := n') (l' := l') ra.1
      have lx := both_len h n l p h' n' l'
      have lp := union_len h n l p h' n' l'
      generalize bothP h n l p h' n' l' = X at *
      generalize unionP h n l p h' n' l' = U at *
      obtain ⟨x1, x2, x3, x4, ok⟩ := X
      obtain ⟨p1, p2, p3, p4, good⟩ := U
      obtain ⟨y1, y2, y3, y4, yk⟩ := Y
      obtain ⟨q1, q2, q3, q4, qk⟩ := Q
      simp only at ox op oy oq lx lp
      obtain rfl : yk = ok := oy.trans ox.symm
      obtain rfl : qk = good := oq.trans op.symm
      obtain ⟨K11, e11⟩ := allows_ev h n l p s (by omega)
      obtain ⟨K12, e12⟩ := rallows_ev h n l p s (by omega) ha
      obtain ⟨K13, e13⟩ := allows_ev h' n' l' p' s (by omega)
      obtain ⟨K14, e14⟩ := sub_ev h n l p h' n' l' p' (by omega) (by omega)
      obtain ⟨K15, e15⟩ := rsub_ev h n l p h' n' l' p' (by omega) (by omega) ha hb
      obtain ⟨K16, e16⟩ := same_ev h n l p h' n' l' p' (by omega) (by omega)
      obtain ⟨K17, e17⟩ := rsame_ev h n l p h' n' l' p' (by omega) (by omega) ha hb
      obtain ⟨K18, e18⟩ := allows_ev x1 x2 x3 x4 s (by omega)
      obtain ⟨K19, e19⟩ := allows_ev p1 p2 p3 p4 s (by omega)
      obtain ⟨K20, e20⟩ := right_ev x1 x2 x3 x4 (by omega)
      obtain ⟨K21, e21⟩ := right_ev p1 p2 p3 p4 (by omega)
      have sx : ∃ K, ∀ k, K ≤ k → yk = true → rubricref14_Same.f k x1 x2 x3 x4 y1 y2 y3 y4 = some true := by
        cases yk with
        | false => exact ⟨0, fun _ _ hc => by cases hc⟩
        | true =>
          obtain ⟨a1, a2, a3, a4⟩ := ix rfl rfl
          obtain ⟨b1, b2, b3, b4⟩ := iy rfl
          simp only at a1 a2 a3 a4 b1 b2 b3 b4
          have := rsame_ev x1 x2 x3 x4 y1 y2 y3 y4 (by omega) (by omega) (right_h a1) (right_h b1)
          rw [sameP_true (a2.trans b2.symm) (fun s => (a4 s).trans (b4 s).symm)] at this
          obtain ⟨K, e⟩ := this
          exact ⟨K, fun k hk _ => e k hk⟩
      have sp : ∃ K, ∀ k, K ≤ k → qk = true → rubricref14_Same.f k p1 p2 p3 p4 q1 q2 q3 q4 = some true := by
        cases qk with
        | false => exact ⟨0, fun _ _ hc => by cases hc⟩
        | true =>
          obtain ⟨a1, a2, a3, a4⟩ := ip rfl rfl
          obtain ⟨b1, b2, b3, b4⟩ := iq rfl
          simp only at a1 a2 a3 a4 b1 b2 b3 b4
          have := rsame_ev p1 p2 p3 p4 q1 q2 q3 q4 (by omega) (by omega) (right_h a1) (right_h b1)
          rw [sameP_true (a2.trans b2.symm) (fun s => (a4 s).trans (b4 s).symm)] at this
          obtain ⟨K, e⟩ := this
          exact ⟨K, fun k hk _ => e k hk⟩
      obtain ⟨K22, e22⟩ := sx
      obtain ⟨K23, e23⟩ := sp
      have hle : ∀ j, j ∈ [K0, K1, K2, K3, K4, K5, K6, K7, K8, K9, K10, K11, K12, K13, K14, K15, K16, K17, K18, K19, K20, K21, K22, K23] → j ≤ [K0, K1, K2, K3, K4, K5, K6, K7, K8, K9, K10, K11, K12, K13, K14, K15, K16, K17, K18, K19, K20, K21, K22, K23].sum := fun j hj => le_sum hj
      generalize [K0, K1, K2, K3, K4, K5, K6, K7, K8, K9, K10, K11, K12, K13, K14, K15, K16, K17, K18, K19, K20, K21, K22, K23].sum = k at hle
      have g := fun j hj => hle j hj
      exact pairs_main k h n A c l p h' n' A' c' l' p' s x1 x2 x3 x4 y1 y2 y3 y4 p1 p2 p3 p4 q1 q2 q3 q4 yk qk (decide (allowsP h n l s)) (decide (allowsP h' n' l' s)) (subP h n l h' n' l') (sameP h n l p h' n' l' p') w ka kb s1 s2
        (e0 k (hle _ (by simp))) (e1 k (hle _ (by simp))) (e2 k (hle _ (by simp))) (e3 k (hle _ (by simp))) (e4 k (hle _ (by simp))) (e5 k (hle _ (by simp))) (e6 k (hle _ (by simp)))
        (e7 k (hle _ (by simp))) (e8 k (hle _ (by simp))) (e9 k (hle _ (by simp))) (e10 k (hle _ (by simp))) (e11 k (hle _ (by simp))) (e12 k (hle _ (by simp))) (e13 k (hle _ (by simp)))
        (e14 k (hle _ (by simp))) (e15 k (hle _ (by simp))) (e16 k (hle _ (by simp))) (e17 k (hle _ (by simp)))
        (e22 k (hle _ (by simp)))
        (fun hy => (e20 k (hle _ (by simp))).trans (by rw [decide_eq_true (ix hy hy).1]))
        (fun hy => (e18 k (hle _ (by simp))).trans (by rw [decide_eq_decide.2 ((ix hy hy).2.2.2 s), Bool.decide_and]))
        (e23 k (hle _ (by simp)))
        (fun hy => (e21 k (hle _ (by simp))).trans (by rw [decide_eq_true (ip hy hy).1]))
        (fun hy => (e19 k (hle _ (by simp))).trans (by rw [decide_eq_decide.2 ((ip hy hy).2.2.2 s), Bool.decide_or]))
    · rw [decide_eq_false rb] at e5 e6
      exact pairs_right1 (K0 + K1 + K2 + K3 + K4 + K5 + K6) h n A c l p h' n' A' c' l' p' s w ka kb s1 s2 (e0 _ (by omega)) (e1 _ (by omega)) (e2 _ (by omega)) (e3 _ (by omega)) (e4 _ (by omega)) (e5 _ (by omega)) (e6 _ (by omega))
  · rw [decide_eq_false ra] at e3 e4
    exact pairs_right0 (K0 + K1 + K2 + K3 + K4 + K5 + K6) h n A c l p h' n' A' c' l' p' s _ w ka kb s1 s2 (e0 _ (by omega)) (e1 _ (by omega)) (e2 _ (by omega)) (e3 _ (by omega)) (e4 _ (by omega)) (e5 _ (by omega)) (e6 _ (by omega))

end Go.Proofs.Ytfpedicgeepikaa.B
