import Derived.Test.YtjhmpippcndloaaB3
import Derived.Test.YtjhmpippcndloaaPrx7
import Derived.Test.YtjhmpippcndloaaPrx8
namespace Go.Proofs.Ytjhmpippcndloaa.B
open Go.RowKit Go.Proofs.Ytjhmpippcndloaa Go.Proofs.Ytjhmpippcndloaa.G Go.Proofs.Ytjhmpippcndloaa.Pr Go.Proofs.YtjhmpippcndloaaW.PrintWords Go.Proofs.YtjhmpippcndloaaW.PrintLast
set_option linter.unusedVariables false
set_option linter.unusedSimpArgs false
/-! ### Both, Size, Same -/
theorem Canon.drop {s : List S24} (h : Canon s) (i : Nat) : Canon (s.drop i) := ⟨fun x hx => h.each x (List.mem_of_mem_drop hx), h.apart.sublist (List.drop_sublist i s)⟩
theorem both_l0 (a b : List S24) (ca : Canon a) (cb : Canon b) (ha : a.length ≤ 274877906944) (hb : b.length ≤ 274877906944) :
    ∀ (d i j : Nat) (out : List S24), i ≤ a.length → j ≤ b.length → (a.length - i) + (b.length - j) = d → out.length ≤ i + j →
      ∃ out' : List S24, Ev (fun k => set_Both.l0 k a b out (i : Int) (j : Int)) (ofL out') ∧ out'.length ≤ a.length + b.length ∧ ∀ r, hasP out' r ↔ hasP out r ∨ (hasP (a.drop i) r ∧ hasP (b.drop j) r) := by
  intro d
  induction d with
  | zero =>
    intro i j out hi hj hd ho
    refine ⟨out, ?_, by omega, fun r => ?_⟩
    · refine Ev_succ (Ev_succ ?_)
      simp only [set_Both.l0, if_neg (show ¬ (i : Int) < (a.length : Int) by omega), set_Both.j1, Bool.false_eq_true, if_false]
      exact Ev.bind (of_ev out (by omega)) (Ev.now _)
    · rw [List.drop_of_length_le (show a.length ≤ i by omega)]
      exact ⟨.inl, fun h => h.elim id (fun h => absurd h.1 (has_nil r))⟩
  | succ d ih =>
    intro i j out hi hj hd ho
    by_cases h1 : i < a.length
    · by_cases h2 : j < b.length
      · have da : a.drop i = a[i] :: a.drop (i + 1) := List.drop_eq_getElem_cons h1
        have db : b.drop j = b[j] :: b.drop (j + 1) := List.drop_eq_getElem_cons h2
        have hca := ca.drop i
        have hcb := cb.drop j
        rw [da] at hca
        rw [db] at hcb
        have hha := hca.head
        have hhb := hcb.head
        by_cases hc : a[i].f1 < b[j].f1
        · obtain ⟨out', e, hl, hh⟩ := ih (i + 1) j (out ++ [⟨mx a[i].f0 b[j].f0, mn a[i].f1 b[j].f1⟩]) (by omega) (by omega) (by omega) (by simp only [List.length_append, List.length_singleton]; omega)
          refine ⟨out', ?_, hl, fun r => ?_⟩
          · refine Ev_succ (Ev_succ ?_)
            simp only [set_Both.l0, if_pos (show (i : Int) < (a.length : Int) by omega), set_Both.j1, decide_eq_true (show (j : Int) < (b.length : Int) by omega), if_true, if_pos (show (0 : Int) ≤ (i : Int) by omega), if_pos (show (0 : Int) ≤ (j : Int) by omega), if_pos (show (j : Int) < (b.length : Int) by omega), if_pos (show out.length < 17592186044416 by omega), rdT h1, rdT h2, Option.bind_some, if_pos hc, nxt h1 (by omega)]
            exact e
          · rw [hh r, has_append, has_one, da, has_cons, db, has_cons]
            have k1 := hha r
            have k2 := hhb r
            unfold mx mn
            simp only
            constructor
            · rintro ((h | ⟨h3, h4⟩) | ⟨h3, h4⟩)
              · exact .inl h
              · refine .inr ⟨.inl ⟨by omega, by omega⟩, .inl ⟨by omega, by omega⟩⟩
              · exact .inr ⟨.inr h3, h4⟩
            · rintro (h | ⟨h3 | h3, h4 | h4⟩)
              · exact .inl (.inl h)
              · exact .inl (.inr ⟨by omega, by omega⟩)
              · have := k2 h4; omega
              · exact .inr ⟨h3, .inl h4⟩
              · exact .inr ⟨h3, .inr h4⟩
        · obtain ⟨out', e, hl, hh⟩ := ih i (j + 1) (out ++ [⟨mx a[i].f0 b[j].f0, mn a[i].f1 b[j].f1⟩]) (by omega) (by omega) (by omega) (by simp only [List.length_append, List.length_singleton]; omega)
          refine ⟨out', ?_, hl, fun r => ?_⟩
          · refine Ev_succ (Ev_succ ?_)
            simp only [set_Both.l0, if_pos (show (i : Int) < (a.length : Int) by omega), set_Both.j1, decide_eq_true (show (j : Int) < (b.length : Int) by omega), if_true, if_pos (show (0 : Int) ≤ (i : Int) by omega), if_pos (show (0 : Int) ≤ (j : Int) by omega), if_pos (show (j : Int) < (b.length : Int) by omega), if_pos (show out.length < 17592186044416 by omega), rdT h1, rdT h2, Option.bind_some, if_neg hc, nxt h2 (by omega)]
            exact e
          · rw [hh r, has_append, has_one, da, has_cons, db, has_cons]
            have k1 := hha r
            have k2 := hhb r
            unfold mx mn
            simp only
            constructor
            · rintro ((h | ⟨h3, h4⟩) | ⟨h3, h4⟩)
              · exact .inl h
              · refine .inr ⟨.inl ⟨by omega, by omega⟩, .inl ⟨by omega, by omega⟩⟩
              · exact .inr ⟨h3, .inr h4⟩
            · rintro (h | ⟨h3 | h3, h4 | h4⟩)
              · exact .inl (.inl h)
              · exact .inl (.inr ⟨by omega, by omega⟩)
              · exact .inr ⟨.inl h3, h4⟩
              · have := k1 h3; omega
              · exact .inr ⟨.inr h3, h4⟩
      · refine ⟨out, ?_, by omega, fun r => ?_⟩
        · refine Ev_succ (Ev_succ ?_)
          simp only [set_Both.l0, if_pos (show (i : Int) < (a.length : Int) by omega), set_Both.j1, decide_eq_false (show ¬ (j : Int) < (b.length : Int) by omega), Bool.false_eq_true, if_false]
          exact Ev.bind (of_ev out (by omega)) (Ev.now _)
        · rw [List.drop_of_length_le (show b.length ≤ j by omega)]
          exact ⟨.inl, fun h => h.elim id (fun h => absurd h.2 (has_nil r))⟩
    · refine ⟨out, ?_, by omega, fun r => ?_⟩
      · refine Ev_succ (Ev_succ ?_)
        simp only [set_Both.l0, if_neg (show ¬ (i : Int) < (a.length : Int) by omega), set_Both.j1, Bool.false_eq_true, if_false]
        exact Ev.bind (of_ev out (by omega)) (Ev.now _)
      · rw [List.drop_of_length_le (show a.length ≤ i by omega)]
        exact ⟨.inl, fun h => h.elim id (fun h => absurd h.1 (has_nil r))⟩
theorem both_ev (a b : List S24) (ca : Canon a) (cb : Canon b) (ha : a.length ≤ 274877906944) (hb : b.length ≤ 274877906944) :
    ∃ s : List S24, Ev (fun k => set_Both.f k a b) s ∧ Canon s ∧ s.length ≤ a.length + b.length ∧ ∀ r, hasP s r ↔ hasP a r ∧ hasP b r := by
  obtain ⟨out, e, hl, hh⟩ := both_l0 a b ca cb ha hb _ 0 0 [] (Nat.zero_le _) (Nat.zero_le _) rfl (Nat.zero_le _)
  refine ⟨ofL out, e, ofL_canon out, Nat.le_trans (ofL_length out) hl, fun r => ?_⟩
  rw [ofL_has, hh r, List.drop_zero, List.drop_zero]
  exact ⟨fun h => h.1.elim (fun h => absurd h (has_nil r)) id, fun h => ⟨.inr h, ca.bound h.1⟩⟩
/-! how many -/
def sizeL : List S24 → Int
  | [] => 0
  | x :: l => (x.f1 - x.f0 + 1) + sizeL l
theorem sizeL_bound : ∀ (s : List S24) (lo : Int), Canon s → lo ≤ topL + 1 → (∀ x, x ∈ s → lo ≤ x.f0) → 0 ≤ sizeL s ∧ sizeL s ≤ topL + 1 - lo
  | [], lo, _, h, _ => by simp only [sizeL]; omega
  | x :: l, lo, hs, h, hb => by
    have hx := hs.each x List.mem_cons_self
    have hbx := hb x List.mem_cons_self
    have hap := (List.pairwise_cons.1 hs.apart).1
    have := sizeL_bound l (x.f1 + 1) hs.tail (by omega) (fun y hy => by have := hap y hy; omega)
    simp only [sizeL]
    omega
theorem sizeL_append : ∀ (a b : List S24), sizeL (a ++ b) = sizeL a + sizeL b
  | [], b => by simp [sizeL]
  | x :: l, b => by simp only [List.cons_append, sizeL, sizeL_append l b]; omega
theorem size_l0 (s : List S24) (hs : Canon s) (hl : s.length ≤ 1099511627776) : ∀ (d i : Nat) (n : Int), i + d = s.length → 0 ≤ n → n + sizeL (s.drop i) ≤ topL + 1 → Ev (fun k => set_Set_Size.l0 k n s (s.length : Int) (i : Int)) (n + sizeL (s.drop i))
  | 0, i, n, hi, h0, hn => by
    rw [List.drop_of_length_le (by omega)]
    refine Ev_succ ?_
    simp only [set_Set_Size.l0, if_neg (show ¬ (i : Int) < (s.length : Int) by omega), sizeL, Int.add_zero]
    exact Ev.now _
  | d + 1, i, n, hi, h0, hn => by
    have hlt : i < s.length := by omega
    have hd : s.drop i = s[i] :: s.drop (i + 1) := List.drop_eq_getElem_cons hlt
    have hx := hs.each _ (List.getElem_mem hlt)
    have hsz := (sizeL_bound (s.drop (i + 1)) 0 (hs.drop _) (by decide) (fun y hy => ((hs.drop _).each y hy).1)).1
    rw [hd] at hn ⊢
    simp only [sizeL] at hn ⊢
    unfold topL at hn hx
    refine Ev_succ ?_
    have e1 : wrap64 s[i].f1 = s[i].f1 := w64 (by omega) (by omega)
    have e2 : wrap64 s[i].f0 = s[i].f0 := w64 (by omega) (by omega)
    have e3 : wrap64 (s[i].f1 - s[i].f0) = s[i].f1 - s[i].f0 := w64 (by omega) (by omega)
    have e4 : wrap64 (s[i].f1 - s[i].f0 + 1) = s[i].f1 - s[i].f0 + 1 := w64 (by omega) (by omega)
    have e5 : wrap64 (n + (s[i].f1 - s[i].f0 + 1)) = n + (s[i].f1 - s[i].f0 + 1) := w64 (by omega) (by omega)
    simp only [set_Set_Size.l0, if_pos (show (i : Int) < (s.length : Int) by omega), if_pos (show (0 : Int) ≤ (i : Int) by omega), rdT hlt, nxt hlt hl, e1, e2, e3, e4, e5]
    have := size_l0 s hs hl d (i + 1) (n + (s[i].f1 - s[i].f0 + 1)) (by omega) (by omega) (by unfold topL; omega)
    rw [Int.add_assoc n] at this
    exact this
theorem size_ev (s : List S24) (hs : Canon s) (hl : s.length ≤ 1099511627776) : Ev (fun k => set_Set_Size.f k s) (sizeL s) := by
  have hb := sizeL_bound s 0 hs (by decide) (fun y hy => (hs.each y hy).1)
  have := size_l0 s hs hl s.length 0 0 (by omega) (Int.le_refl _) (by rw [List.drop_zero]; omega)
  rw [List.drop_zero, Int.zero_add] at this
  exact Ev.congr (fun k => rfl) this
/-- How many letters are such. -/
def cnt (p : Int → Bool) : Nat := (List.range 1114112).countP fun (n : Nat) => p (n : Int)
theorem countP_two {α : Type} (p q : α → Bool) : ∀ l : List α, l.countP p + l.countP q = l.countP (fun x => p x || q x) + l.countP (fun x => p x && q x)
  | [] => by simp
  | x :: l => by
    have ih := countP_two p q l
    simp only [List.countP_cons]
    cases p x <;> cases q x <;> simp <;> omega
theorem countP_none {α : Type} (p : α → Bool) : ∀ l : List α, (∀ x, x ∈ l → p x = false) → l.countP p = 0
  | [], _ => rfl
  | x :: l, h => by
    rw [List.countP_cons, countP_none p l (fun y hy => h y (List.mem_cons_of_mem _ hy)), h x List.mem_cons_self]
    rfl
theorem countP_same {α : Type} (p q : α → Bool) : ∀ l : List α, (∀ x, x ∈ l → p x = q x) → l.countP p = l.countP q
  | [], _ => rfl
  | x :: l, h => by rw [List.countP_cons, List.countP_cons, countP_same p q l (fun y hy => h y (List.mem_cons_of_mem _ hy)), h x List.mem_cons_self]
theorem cnt_two (p q : Int → Bool) : cnt p + cnt q = cnt (fun r => p r || q r) + cnt (fun r => p r && q r) := countP_two _ _ _
theorem cnt_congr {p q : Int → Bool} (h : ∀ r, 0 ≤ r → r ≤ topL → p r = q r) : cnt p = cnt q := countP_same _ _ _ (fun n hn => h _ (by omega) (by have := List.mem_range.1 hn; unfold topL; omega))
theorem cnt_none {p : Int → Bool} (h : ∀ r, 0 ≤ r → r ≤ topL → p r = false) : cnt p = 0 := countP_none _ _ (fun n hn => h _ (by omega) (by have := List.mem_range.1 hn; unfold topL; omega))
theorem range_interval (lo hi : Nat) : ∀ N : Nat, (List.range N).countP (fun (n : Nat) => decide ((lo : Int) ≤ (n : Int)) && decide ((n : Int) ≤ (hi : Int))) = min N (hi + 1) - lo
  | 0 => by simp
  | N + 1 => by
    rw [List.range_succ, List.countP_append, range_interval lo hi N]
    simp only [List.countP_cons, List.countP_nil, Bool.and_eq_true, decide_eq_true_iff]
    split <;> omega
theorem cnt_interval (x : S24) (h0 : 0 ≤ x.f0) (h1 : x.f0 ≤ x.f1) (h2 : x.f1 ≤ topL) : (cnt (inR · x) : Int) = x.f1 - x.f0 + 1 := by
  have e : cnt (inR · x) = min 1114112 (x.f1.toNat + 1) - x.f0.toNat := by
    rw [← range_interval x.f0.toNat x.f1.toNat 1114112]
    unfold cnt inR
    refine countP_same _ _ _ (fun n hn => ?_)
    have e0 : (x.f0.toNat : Int) = x.f0 := by omega
    have e1 : (x.f1.toNat : Int) = x.f1 := by omega
    rw [e0, e1]
  rw [e]
  unfold topL at h2
  omega
theorem size_cnt : ∀ (s : List S24), Canon s → sizeL s = (cnt (fun r => decide (hasP s r)) : Int)
  | [], _ => by
    rw [cnt_none (fun r _ _ => decide_eq_false (has_nil r))]
    rfl
  | x :: l, hs => by
    have hx := hs.each x List.mem_cons_self
    have h1 := cnt_interval x hx.1 hx.2.1 hx.2.2
    have h2 := size_cnt l hs.tail
    have h3 := cnt_two (inR · x) (fun r => decide (hasP l r))
    have h4 : cnt (fun r => inR r x && decide (hasP l r)) = 0 := cnt_none (fun r _ _ => by
      rw [Bool.and_eq_false_iff]
      by_cases hr : hasP l r
      · left
        have := hs.head r hr
        unfold inR
        rw [Bool.and_eq_false_iff, decide_eq_false_iff_not, decide_eq_false_iff_not]
        right
        omega
      · exact .inr (decide_eq_false hr))
    have h5 : cnt (fun r => inR r x || decide (hasP l r)) = cnt (fun r => decide (hasP (x :: l) r)) := cnt_congr (fun r _ _ => by
      rw [Bool.eq_iff_iff, Bool.or_eq_true, decide_eq_true_iff, decide_eq_true_iff, has_cons]
      unfold inR
      rw [Bool.and_eq_true, decide_eq_true_iff, decide_eq_true_iff])
    simp only [sizeL]
    omega
/-! Same -/
theorem same_l0 (a b : List S24) (hl : a.length ≤ 1099511627776) (hab : a.length = b.length) : ∀ (d i : Nat), i + d = a.length → Ev (fun k => set_Range_32.l0 k a b (a.length : Int) (i : Int)) (decide (a.drop i = b.drop i))
  | 0, i, hi => by
    rw [List.drop_of_length_le (by omega), List.drop_of_length_le (by omega)]
    refine Ev_succ ?_
    simp only [set_Range_32.l0, if_neg (show ¬ (i : Int) < (a.length : Int) by omega), decide_true]
    exact Ev.now _
  | d + 1, i, hi => by
    have h1 : i < a.length := by omega
    have h2 : i < b.length := by omega
    have ih := same_l0 a b hl hab d (i + 1) (by omega)
    have da : a.drop i = a[i] :: a.drop (i + 1) := List.drop_eq_getElem_cons h1
    have db : b.drop i = b[i] :: b.drop (i + 1) := List.drop_eq_getElem_cons h2
    refine Ev_succ ?_
    simp only [set_Range_32.l0, if_pos (show (i : Int) < (a.length : Int) by omega), if_pos (show (0 : Int) ≤ (i : Int) by omega), if_pos (show (i : Int) < (b.length : Int) by omega), rdT h1, rdT h2, nxt h1 hl]
    by_cases e : a[i] = b[i]
    · have t : (!(a[i].f0 == b[i].f0) || (!(a[i].f1 == b[i].f1))) = false := by rw [e]; simp
      simp only [t, Bool.false_eq_true, if_false]
      have : decide (a.drop i = b.drop i) = decide (a.drop (i + 1) = b.drop (i + 1)) := decide_eq_decide.2 (by
        rw [da, db, e]
        exact ⟨fun h => (List.cons.inj h).2, fun h => by rw [h]⟩)
      rw [this]
      exact ih
    · have t : (!(a[i].f0 == b[i].f0) || (!(a[i].f1 == b[i].f1))) = true := by
        by_cases e0 : a[i].f0 = b[i].f0
        · have e1 : ¬ a[i].f1 = b[i].f1 := fun h => e (S24_ext e0 h)
          simp [e1]
        · simp [e0]
      simp only [t, if_true]
      have : decide (a.drop i = b.drop i) = false := decide_eq_false (fun hh => by
        rw [da, db] at hh
        exact e (List.cons.inj hh).1)
      rw [this]
      exact Ev.now _
theorem same_ev (a b : List S24) (hl : a.length ≤ 1099511627776) : Ev (fun k => set_Same.f k a b) (decide (a = b)) := by
  refine Ev.bind (a := decide (a = b)) ?_ (Ev.now _)
  unfold set_Range_32.f
  by_cases h : (a.length : Int) = (b.length : Int)
  · simp only [if_pos h]
    exact same_l0 a b hl (by omega) a.length 0 (by omega)
  · simp only [if_neg h]
    rw [decide_eq_false (fun e => h (by rw [e]))]
    exact Ev.now _

end Go.Proofs.Ytjhmpippcndloaa.B
