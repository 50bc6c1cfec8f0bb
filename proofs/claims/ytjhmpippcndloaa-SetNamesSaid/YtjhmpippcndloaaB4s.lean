import Derived.Test.YtjhmpippcndloaaB3
import Derived.Test.YtjhmpippcndloaaPrx6
namespace Go.Proofs.Ytjhmpippcndloaa.B
open Go.RowKit Go.Proofs.Ytjhmpippcndloaa Go.Proofs.Ytjhmpippcndloaa.G Go.Proofs.Ytjhmpippcndloaa.Pr Go.Proofs.YtjhmpippcndloaaW.PrintWords Go.Proofs.YtjhmpippcndloaaW.PrintLast
set_option linter.unusedVariables false
set_option linter.unusedSimpArgs false
/-! ### Both, Size, Same -/
theorem Canon.drop {s : List S24} (h : Canon s) (i : Nat) : Canon (s.drop i) := ⟨fun x hx => h.each x (List.mem_of_mem_drop hx), h.apart.sublist (List.drop_sublist i s)⟩
/-! how many -/
def sizeL : List S24 → Int
  | [] => 0
  | x :: l => (x.f1 - x.f0 + 1) + sizeL l
theorem sizeL_bound : ∀ (s : List S24) (lo : Int), Canon s → lo ≤ topL + 1 → (∀ x, x ∈ s → lo ≤ x.f0) → 0 ≤ sizeL s ∧ sizeL s ≤ topL + 1 - lo
  | [], lo, _, h, _ => by simp only [sizeL]; omega
  | x :: l, lo, hs, h, hb => by
    have hx := hs.each x List.mem_cons_self
    have hbx := hb x List.mem_cons_self
    have hap := (List.pairwise_cons.1 hs.apart).1
    have := sizeL_bound l (x.f1 + 1) hs.tail (by omega) (fun y hy => by have := hap y hy; omega)
    simp only [sizeL]
    omega
theorem sizeL_append : ∀ (a b : List S24), sizeL (a ++ b) = sizeL a + sizeL b
  | [], b => by simp [sizeL]
  | x :: l, b => by simp only [List.cons_append, sizeL, sizeL_append l b]; omega
theorem size_l0 (s : List S24) (hs : Canon s) (hl : s.length ≤ 1099511627776) : ∀ (d i : Nat) (n : Int), i + d = s.length → 0 ≤ n → n + sizeL (s.drop i) ≤ topL + 1 → Ev (fun k => set_Set_Size.l0 k n s (s.length : Int) (i : Int)) (n + sizeL (s.drop i))
  | 0, i, n, hi, h0, hn => by
    rw [List.drop_of_length_le (by omega)]
    refine Ev_succ ?_
    simp only [set_Set_Size.l0, if_neg (show ¬ (i : Int) < (s.length : Int) by omega), sizeL, Int.add_zero]
    exact Ev.now _
  | d + 1, i, n, hi, h0, hn => by
    have hlt : i < s.length := by omega
    have hd : s.drop i = s[i] :: s.drop (i + 1) := List.drop_eq_getElem_cons hlt
    have hx := hs.each _ (List.getElem_mem hlt)
    have hsz := (sizeL_bound (s.drop (i + 1)) 0 (hs.drop _) (by decide) (fun y hy => ((hs.drop _).each y hy).1)).1
    rw [hd] at hn ⊢
    simp only [sizeL] at hn ⊢
    unfold topL at hn hx
    refine Ev_succ ?_
    have e1 : wrap64 s[i].f1 = s[i].f1 := w64 (by omega) (by omega)
    have e2 : wrap64 s[i].f0 = s[i].f0 := w64 (by omega) (by omega)
    have e3 : wrap64 (s[i].f1 - s[i].f0) = s[i].f1 - s[i].f0 := w64 (by omega) (by omega)
    have e4 : wrap64 (s[i].f1 - s[i].f0 + 1) = s[i].f1 - s[i].f0 + 1 := w64 (by omega) (by omega)
    have e5 : wrap64 (n + (s[i].f1 - s[i].f0 + 1)) = n + (s[i].f1 - s[i].f0 + 1) := w64 (by omega) (by omega)
    simp only [set_Set_Size.l0, if_pos (show (i : Int) < (s.length : Int) by omega), if_pos (show (0 : Int) ≤ (i : Int) by omega), rdT hlt, nxt hlt hl, e1, e2, e3, e4, e5]
    have := size_l0 s hs hl d (i + 1) (n + (s[i].f1 - s[i].f0 + 1)) (by omega) (by omega) (by unfold topL; omega)
    rw [Int.add_assoc n] at this
    exact this
theorem size_ev (s : List S24) (hs : Canon s) (hl : s.length ≤ 1099511627776) : Ev (fun k => set_Set_Size.f k s) (sizeL s) := by
  have hb := sizeL_bound s 0 hs (by decide) (fun y hy => (hs.each y hy).1)
  have := size_l0 s hs hl s.length 0 0 (by omega) (Int.le_refl _) (by rw [List.drop_zero]; omega)
  rw [List.drop_zero, Int.zero_add] at this
  exact Ev.congr (fun k => rfl) this
/-- How many letters are such. -/
def cnt (p : Int → Bool) : Nat := (List.range 1114112).countP fun (n : Nat) => p (n : Int)
theorem countP_two {α : Type} (p q : α → Bool) : ∀ l : List α, l.countP p + l.countP q = l.countP (fun x => p x || q x) + l.countP (fun x => p x && q x)
  | [] => by simp
  | x :: l => by
    have ih := countP_two p q l
    simp only [List.countP_cons]
    cases p x <;> cases q x <;> simp <;> omega
theorem countP_none {α : Type} (p : α → Bool) : ∀ l : List α, (∀ x, x ∈ l → p x = false) → l.countP p = 0
  | [], _ => rfl
  | x :: l, h => by
    rw [List.countP_cons, countP_none p l (fun y hy => h y (List.mem_cons_of_mem _ hy)), h x List.mem_cons_self]
    rfl
theorem countP_same {α : Type} (p q : α → Bool) : ∀ l : List α, (∀ x, x ∈ l → p x = q x) → l.countP p = l.countP q
  | [], _ => rfl
  | x :: l, h => by rw [List.countP_cons, List.countP_cons, countP_same p q l (fun y hy => h y (List.mem_cons_of_mem _ hy)), h x List.mem_cons_self]
theorem cnt_two (p q : Int → Bool) : cnt p + cnt q = cnt (fun r => p r || q r) + cnt (fun r => p r && q r) := countP_two _ _ _
theorem cnt_congr {p q : Int → Bool} (h : ∀ r, 0 ≤ r → r ≤ topL → p r = q r) : cnt p = cnt q := countP_same _ _ _ (fun n hn => h _ (by omega) (by have := List.mem_range.1 hn; unfold topL; omega))
theorem cnt_none {p : Int → Bool} (h : ∀ r, 0 ≤ r → r ≤ topL → p r = false) : cnt p = 0 := countP_none _ _ (fun n hn => h _ (by omega) (by have := List.mem_range.1 hn; unfold topL; omega))
theorem range_interval (lo hi : Nat) : ∀ N : Nat, (List.range N).countP (fun (n : Nat) => decide ((lo : Int) ≤ (n : Int)) && decide ((n : Int) ≤ (hi : Int))) = min N (hi + 1) - lo
  | 0 => by simp
  | N + 1 => by
    rw [List.range_succ, List.countP_append, range_interval lo hi N]
    simp only [List.countP_cons, List.countP_nil, Bool.and_eq_true, decide_eq_true_iff]
    split <;> omega
theorem cnt_interval (x : S24) (h0 : 0 ≤ x.f0) (h1 : x.f0 ≤ x.f1) (h2 : x.f1 ≤ topL) : (cnt (inR · x) : Int) = x.f1 - x.f0 + 1 := by
  have e : cnt (inR · x) = min 1114112 (x.f1.toNat + 1) - x.f0.toNat := by
    rw [← range_interval x.f0.toNat x.f1.toNat 1114112]
    unfold cnt inR
    refine countP_same _ _ _ (fun n hn => ?_)
    have e0 : (x.f0.toNat : Int) = x.f0 := by omega
    have e1 : (x.f1.toNat : Int) = x.f1 := by omega
    rw [e0, e1]
  rw [e]
  unfold topL at h2
  omega
theorem size_cnt : ∀ (s : List S24), Canon s → sizeL s = (cnt (fun r => decide (hasP s r)) : Int)
  | [], _ => by
    rw [cnt_none (fun r _ _ => decide_eq_false (has_nil r))]
    rfl
  | x :: l, hs => by
    have hx := hs.each x List.mem_cons_self
    have h1 := cnt_interval x hx.1 hx.2.1 hx.2.2
    have h2 := size_cnt l hs.tail
    have h3 := cnt_two (inR · x) (fun r => decide (hasP l r))
    have h4 : cnt (fun r => inR r x && decide (hasP l r)) = 0 := cnt_none (fun r _ _ => by
      rw [Bool.and_eq_false_iff]
      by_cases hr : hasP l r
      · left
        have := hs.head r hr
        unfold inR
        rw [Bool.and_eq_false_iff, decide_eq_false_iff_not, decide_eq_false_iff_not]
        right
        omega
      · exact .inr (decide_eq_false hr))
    have h5 : cnt (fun r => inR r x || decide (hasP l r)) = cnt (fun r => decide (hasP (x :: l) r)) := cnt_congr (fun r _ _ => by
      rw [Bool.eq_iff_iff, Bool.or_eq_true, decide_eq_true_iff, decide_eq_true_iff, has_cons]
      unfold inR
      rw [Bool.and_eq_true, decide_eq_true_iff, decide_eq_true_iff])
    simp only [sizeL]
    omega
/-! Same -/

end Go.Proofs.Ytjhmpippcndloaa.B
