import Derived.Test.YtfpedicgeepikaaB18
import Derived.Test.YtfpedicgeepikaaPrx4
namespace Go.Proofs.Ytfpedicgeepikaa.B
open Go.RowKit Go.Proofs.Ytfpedicgeepikaa Go.Proofs.Ytfpedicgeepikaa.G Go.Proofs.Ytfpedicgeepikaa.Pr Go.Proofs.YtfpedicgeepikaaW.PrintWords Go.Proofs.YtfpedicgeepikaaW.PrintLast
set_option linter.unusedVariables false
set_option linter.unusedSimpArgs false
/-! ### Few, Right, WildSubs -/
theorem few_l0 (h : Int) (n : ByteArray) (l : List ByteArray) (p : Int) : ∀ (d i : Nat), i + d = l.length → ∃ b, Ev (fun k => rubriclaw14_Few.l0 k (i : Int) h n l p) b ∧ (b = true → l.length ≤ 30)
  | 0, i, hi => by
    by_cases hl : (l.length : Int) ≤ 30
    · refine ⟨decide ((n.size : Int) ≤ 300), Ev_succ (Ev_succ ?_), fun _ => by omega⟩
      simp only [rubriclaw14_Few.l0, if_neg (show ¬ (i : Int) < (l.length : Int) by omega), rubriclaw14_Few.j1, Bool.false_eq_true, if_false, if_pos hl]
      exact Ev.now _
    · refine ⟨false, Ev_succ (Ev_succ ?_), fun e => by cases e⟩
      simp only [rubriclaw14_Few.l0, if_neg (show ¬ (i : Int) < (l.length : Int) by omega), rubriclaw14_Few.j1, Bool.false_eq_true, if_false, if_neg hl]
      exact Ev.now _
  | d + 1, i, hi => by
    by_cases h30 : (i : Int) ≤ 30
    · by_cases hs : ((rdOf ByteArray.empty l (i : Int)).size : Int) > 300
      · refine ⟨false, Ev_succ (Ev_succ ?_), fun e => by cases e⟩
        simp only [rubriclaw14_Few.l0, if_pos (show (i : Int) < (l.length : Int) by omega), rubriclaw14_Few.j1, decide_eq_true h30, if_true, if_pos (show (0 : Int) ≤ (i : Int) by omega), if_pos hs]
        exact Ev.now _
      · obtain ⟨b, hb, hb2⟩ := few_l0 h n l p d (i + 1) (by omega)
        refine ⟨b, Ev_succ (Ev_succ ?_), hb2⟩
        have hw : wrap64 ((i : Int) + 1) = ((i + 1 : Nat) : Int) := by rw [w64 (x := (i : Int) + 1) (by omega) (by omega)]; omega
        simp only [rubriclaw14_Few.l0, if_pos (show (i : Int) < (l.length : Int) by omega), rubriclaw14_Few.j1, decide_eq_true h30, if_true, if_pos (show (0 : Int) ≤ (i : Int) by omega), if_neg hs, hw]
        exact hb
    · refine ⟨false, Ev_succ (Ev_succ ?_), fun e => by cases e⟩
      simp only [rubriclaw14_Few.l0, if_pos (show (i : Int) < (l.length : Int) by omega), rubriclaw14_Few.j1, decide_eq_false h30, Bool.false_eq_true, if_false, if_neg (show ¬ (l.length : Int) ≤ 30 by omega)]
      exact Ev.now _
theorem few_ev (h : Int) (n : ByteArray) (l : List ByteArray) (p : Int) : ∃ b, Ev (fun k => rubriclaw14_Few.f k h n l p) b ∧ (b = true → l.length ≤ 30) := few_l0 h n l p l.length 0 (by omega)
theorem rdOf_get {l : List ByteArray} {i : Nat} (hi : i < l.length) : rdOf ByteArray.empty l (i : Int) = l[i] := by
  unfold rdOf
  rw [Int.toNat_natCast, List.getD_eq_getElem?_getD, List.getElem?_eq_getElem hi]
  rfl
theorem equal_l0 (a b : List ByteArray) (ha : a.length ≤ 1048576) (hab : a.length = b.length) : ∀ (d i : Nat), i + d = a.length → Ev (fun k => slices_Equal_string_string.l0 k a b (a.length : Int) (i : Int)) (decide (a.drop i = b.drop i))
  | 0, i, hi => by
    rw [List.drop_of_length_le (by omega), List.drop_of_length_le (by omega)]
    refine Ev_succ ?_
    simp only [slices_Equal_string_string.l0, if_neg (show ¬ (i : Int) < (a.length : Int) by omega), decide_true]
    exact Ev.now _
  | d + 1, i, hi => by
    have hw : wrap64 ((i : Int) + 1) = ((i + 1 : Nat) : Int) := by rw [w64 (x := (i : Int) + 1) (by omega) (by omega)]; omega
    have ih := equal_l0 a b ha hab d (i + 1) (by omega)
    refine Ev_succ ?_
    simp only [slices_Equal_string_string.l0, if_pos (show (i : Int) < (a.length : Int) by omega), if_pos (show (0 : Int) ≤ (i : Int) by omega), if_pos (show (i : Int) < (b.length : Int) by omega), rdOf_get (show i < a.length by omega), rdOf_get (show i < b.length by omega), hw]
    have da : a.drop i = a[i]'(by omega) :: a.drop (i + 1) := List.drop_eq_getElem_cons (by omega)
    have db : b.drop i = b[i]'(by omega) :: b.drop (i + 1) := List.drop_eq_getElem_cons (by omega)
    by_cases e : a[i]'(by omega) = b[i]'(by omega)
    · simp only [if_pos (tl_eq.2 e)]
      have : decide (a.drop i = b.drop i) = decide (a.drop (i + 1) = b.drop (i + 1)) := decide_eq_decide.2 (by
        rw [da, db, e]
        exact ⟨fun h => (List.cons.inj h).2, fun h => by rw [h]⟩)
      rw [this]
      exact ih
    · simp only [if_neg (fun hh => e (tl_eq.1 hh))]
      have : decide (a.drop i = b.drop i) = false := decide_eq_false (fun hh => by
        rw [da, db] at hh
        exact e (List.cons.inj hh).1)
      rw [this]
      exact Ev.now _
theorem equal_ev (a b : List ByteArray) (ha : a.length ≤ 1048576) : Ev (fun k => slices_Equal_string_string.f k a b) (decide (a = b)) := by
  unfold slices_Equal_string_string.f
  by_cases hl : (a.length : Int) = (b.length : Int)
  · simp only [if_pos hl]
    exact equal_l0 a b ha (by omega) a.length 0 (by omega)
  · simp only [if_neg hl]
    rw [decide_eq_false (fun e => hl (by rw [e]))]
    exact Ev.now _
/-- May a wildcard be? -/
def rightP (h : Int) (n : ByteArray) (l : List ByteArray) (p : Int) : Prop := (1 ≤ p ∧ p ≤ 3) ∧ ((h = 1 ∧ n = ⟨#[]⟩ ∧ l = []) ∨ (h = 2 ∧ l = []) ∨ (h = 3 ∧ n = ⟨#[]⟩ ∧ setL l = l))
instance (h : Int) (n : ByteArray) (l : List ByteArray) (p : Int) : Decidable (rightP h n l p) := by unfold rightP; infer_instance
theorem right_ev (h : Int) (n : ByteArray) (l : List ByteArray) (p : Int) (hl : l.length ≤ 1048576) : Ev (fun k => wild_Right.f k h n l p) (decide (rightP h n l p)) := by
  unfold wild_Right.f
  have done : ∀ b : Bool, (b = true ↔ rightP h n l p) → Ev (fun _ : Nat => some b) (decide (rightP h n l p)) := fun b hb => by
    have : decide (rightP h n l p) = b := by rw [Bool.eq_iff_iff, decide_eq_true_iff, hb]
    rw [this]
    exact Ev.now _
  by_cases p1 : p < 1
  · simp only [if_pos p1]
    refine Ev_succ ?_
    simp only [wild_Right.j0, if_true]
    exact done false ⟨(fun e => by cases e), fun e => by unfold rightP at e; omega⟩
  · simp only [if_neg p1]
    refine Ev_succ ?_
    by_cases p3 : p > 3
    · simp only [wild_Right.j0, decide_eq_true p3, if_true]
      exact done false ⟨(fun e => by cases e), fun e => by unfold rightP at e; omega⟩
    · simp only [wild_Right.j0, decide_eq_false p3, Bool.false_eq_true, if_false]
      have hlen : ((l.length : Int) == 0) = true ↔ l = [] := by
        rw [beq_iff_eq]
        exact ⟨fun e => List.eq_nil_of_length_eq_zero (by omega), fun e => by rw [e]; rfl⟩
      by_cases h1 : h = 1
      · simp only [if_pos h1]
        by_cases hn : n = ⟨#[]⟩
        · simp only [if_pos (tl_nil.2 hn)]
          refine done _ ?_
          rw [hlen]
          unfold rightP
          constructor
          · exact fun e => ⟨⟨by omega, by omega⟩, .inl ⟨h1, hn, e⟩⟩
          · rintro ⟨_, (⟨_, _, e⟩ | ⟨e, _⟩ | ⟨e, _⟩)⟩
            · exact e
            · omega
            · omega
        · simp only [if_neg (fun hh => hn (tl_nil.1 hh))]
          refine done _ ⟨(fun e => by cases e), fun e => ?_⟩
          unfold rightP at e
          rcases e with ⟨_, (⟨_, e, _⟩ | ⟨e, _⟩ | ⟨e, _⟩)⟩
          · exact absurd e hn
          · omega
          · omega
      · simp only [if_neg h1]
        by_cases h2 : h = 2
        · simp only [if_pos h2]
          refine done _ ?_
          rw [hlen]
          unfold rightP
          constructor
          · exact fun e => ⟨⟨by omega, by omega⟩, .inr (.inl ⟨h2, e⟩)⟩
          · rintro ⟨_, (⟨e, _, _⟩ | ⟨_, e⟩ | ⟨e, _⟩)⟩
            · omega
            · exact e
            · omega
        · simp only [if_neg h2]
          by_cases h3 : h = 3
          · simp only [if_pos h3]
            by_cases hn : n = ⟨#[]⟩
            · simp only [if_pos (tl_nil.2 hn)]
              have ht : wild_these.f l 0 = some (3, ⟨#[]⟩, setL l, 0) := by
                unfold wild_these.f
                rw [if_pos (by omega)]
                rfl
              simp only [ht, Option.bind_some]
              have he := equal_ev (setL l) l (Nat.le_trans (setL_length l) hl)
              have e : decide (rightP h n l p) = decide (setL l = l) := by
                rw [Bool.eq_iff_iff, decide_eq_true_iff, decide_eq_true_iff]
                unfold rightP
                constructor
                · rintro ⟨_, (⟨e, _, _⟩ | ⟨e, _⟩ | ⟨_, _, e⟩)⟩
                  · omega
                  · omega
                  · exact e
                · exact fun e => ⟨⟨by omega, by omega⟩, .inr (.inr ⟨h3, hn, e⟩)⟩
              rw [e]
              exact Ev.bind he (Ev.now _)
            · simp only [if_neg (fun hh => hn (tl_nil.1 hh))]
              refine done _ ⟨(fun e => by cases e), fun e => ?_⟩
              unfold rightP at e
              rcases e with ⟨_, (⟨e, _, _⟩ | ⟨e, _⟩ | ⟨_, e, _⟩)⟩
              · omega
              · omega
              · exact absurd e hn
          · simp only [if_neg h3]
            refine done _ ⟨(fun e => by cases e), fun e => ?_⟩
            unfold rightP at e
            rcases e with ⟨_, (⟨e, _, _⟩ | ⟨e, _⟩ | ⟨e, _⟩)⟩ <;> omega
theorem say_len (o : Bool) (p : Int) (ins outs : List ByteArray) : (sayP o p ins outs).2.2.1.length ≤ ins.length := by
  unfold sayP
  cases o with
  | false => simpa using setL_length ins
  | true =>
    simp only [if_true]
    match outs with
    | [] => simp
    | o :: os =>
      simp only
      split
      · split <;> simp
      · simp
theorem both_len (h : Int) (n : ByteArray) (l : List ByteArray) (p : Int) (h' : Int) (n' : ByteArray) (l' : List ByteArray) : (bothP h n l p h' n' l').2.2.1.length ≤ l.length + l'.length + 3 := by
  unfold bothP
  exact Nat.le_trans (say_len _ _ _ _) (Nat.le_trans (List.length_filter_le _ _) (specL_length _ _ _ _))
theorem union_len (h : Int) (n : ByteArray) (l : List ByteArray) (p : Int) (h' : Int) (n' : ByteArray) (l' : List ByteArray) : (unionP h n l p h' n' l').2.2.1.length ≤ l.length + l'.length + 3 := by
  unfold unionP
  exact Nat.le_trans (say_len _ _ _ _) (Nat.le_trans (List.length_filter_le _ _) (specL_length _ _ _ _))

end Go.Proofs.Ytfpedicgeepikaa.B
