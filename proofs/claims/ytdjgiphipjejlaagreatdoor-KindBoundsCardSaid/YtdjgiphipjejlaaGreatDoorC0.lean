import Derived.Test.YtdjgiphipjejlaaGreatDoorPrx0
namespace Go.Proofs.YtdjgiphipjejlaaGreatDoor.B
open Go.RowKit Go.Proofs.YtdjgiphipjejlaaGreatDoor Go.Proofs.YtdjgiphipjejlaaGreatDoor.G Go.Proofs.YtdjgiphipjejlaaGreatDoor.Pr Go.Proofs.YtdjgiphipjejlaaGreatDoorW.PrintWords Go.Proofs.YtdjgiphipjejlaaGreatDoorW.PrintLast
set_option linter.unusedVariables false
set_option linter.unusedSimpArgs false
/-- Digits, the least significant first, as a number. -/
def rv : List Int → Int
  | [] => 0
  | x :: t => x + 10 * rv t
def Dg (l : List Int) : Prop := ∀ x, x ∈ l → 0 ≤ x ∧ x ≤ 9
theorem Dg_nil : Dg [] := fun _ h => absurd h (by simp)
theorem Dg_cons {x : Int} {t : List Int} : Dg (x :: t) ↔ (0 ≤ x ∧ x ≤ 9) ∧ Dg t := by
  constructor
  · intro h
    exact ⟨h x (by simp), fun y hy => h y (by simp [hy])⟩
  · rintro ⟨h1, h2⟩ y hy
    rcases List.mem_cons.1 hy with rfl | hy
    · exact h1
    · exact h2 y hy
theorem Dg_append {a b : List Int} : Dg (a ++ b) ↔ Dg a ∧ Dg b := by
  constructor
  · intro h
    exact ⟨fun y hy => h y (by simp [hy]), fun y hy => h y (by simp [hy])⟩
  · rintro ⟨h1, h2⟩ y hy
    rcases List.mem_append.1 hy with hy | hy
    · exact h1 y hy
    · exact h2 y hy
theorem Dg_reverse {a : List Int} : Dg a.reverse ↔ Dg a := by simp [Dg]
theorem Dg_zeros (n : Nat) : Dg (List.replicate n 0) := by
  intro x hx
  have := List.eq_of_mem_replicate hx
  omega
theorem Dg_take {a : List Int} (h : Dg a) (n : Nat) : Dg (a.take n) := fun y hy => h y (List.mem_of_mem_take hy)
theorem Dg_drop {a : List Int} (h : Dg a) (n : Nat) : Dg (a.drop n) := fun y hy => h y (List.mem_of_mem_drop hy)
theorem Dg_getD {a : List Int} (h : Dg a) (n : Nat) : 0 ≤ a.getD n 0 ∧ a.getD n 0 ≤ 9 := by
  by_cases hn : n < a.length
  · rw [List.getD_eq_getElem?_getD, List.getElem?_eq_getElem hn]
    exact h _ (List.getElem_mem hn)
  · rw [List.getD_eq_getElem?_getD, List.getElem?_eq_none (by omega)]
    simp
theorem ten_pos (n : Nat) : 0 < (10 : Int) ^ n := Int.pow_pos (by decide)
theorem ten_succ (n : Nat) : (10 : Int) ^ (n + 1) = 10 * 10 ^ n := by rw [Int.pow_succ, Int.mul_comm]
theorem ten_add (n m : Nat) : (10 : Int) ^ (n + m) = 10 ^ n * 10 ^ m := Int.pow_add ..
theorem ten_le {n m : Nat} (h : n ≤ m) : (10 : Int) ^ n ≤ 10 ^ m := by
  obtain ⟨k, rfl⟩ := Nat.exists_eq_add_of_le h
  induction k with
  | zero => exact Int.le_refl _
  | succ k ih =>
    have h1 := ih (by omega)
    have h2 := ten_pos (n + k)
    rw [← Nat.add_assoc, ten_succ]
    omega
theorem rv_nonneg {l : List Int} (h : Dg l) : 0 ≤ rv l := by
  induction l with
  | nil => simp [rv]
  | cons x t ih =>
    obtain ⟨h1, h2⟩ := Dg_cons.1 h
    have := ih h2
    simp only [rv]
    omega
theorem rv_lt {l : List Int} (h : Dg l) : rv l < 10 ^ l.length := by
  induction l with
  | nil => simp [rv]
  | cons x t ih =>
    obtain ⟨h1, h2⟩ := Dg_cons.1 h
    have := ih h2
    simp only [rv, List.length_cons, ten_succ]
    omega
theorem rv_append (a b : List Int) : rv (a ++ b) = rv a + 10 ^ a.length * rv b := by
  induction a with
  | nil => simp [rv]
  | cons x t ih =>
    simp only [List.cons_append, rv, ih, List.length_cons, ten_succ]
    rw [Int.mul_add, Int.mul_assoc]
    omega
theorem rv_zeros (n : Nat) : rv (List.replicate n 0) = 0 := by
  induction n with
  | zero => rfl
  | succ n ih => simp [List.replicate_succ, rv, ih]
theorem rv_take_succ (m : List Int) (q : Nat) : rv (m.take (q + 1)) = rv (m.take q) + 10 ^ q * m.getD q 0 := by
  by_cases hq : q < m.length
  · rw [List.take_succ_eq_append_getElem hq, rv_append, List.length_take, Nat.min_eq_left (by omega), List.getD_eq_getElem?_getD, List.getElem?_eq_getElem hq]
    simp [rv]
  · rw [List.take_of_length_le (by omega), List.take_of_length_le (by omega), List.getD_eq_getElem?_getD, List.getElem?_eq_none (by omega)]
    simp
/-- One length, one number: one list. -/
theorem rv_inj : ∀ {a b : List Int}, Dg a → Dg b → a.length = b.length → rv a = rv b → a = b
  | [], [], _, _, _, _ => rfl
  | [], _ :: _, _, _, h, _ => by simp at h
  | _ :: _, [], _, _, h, _ => by simp at h
  | x :: s, y :: t, ha, hb, hl, hv => by
    obtain ⟨h1, h2⟩ := Dg_cons.1 ha
    obtain ⟨h3, h4⟩ := Dg_cons.1 hb
    simp only [rv] at hv
    have e : x = y := by omega
    subst e
    rw [rv_inj h2 h4 (by simpa using hl) (by omega)]
theorem rv_last {l : List Int} (h : Dg l) {x : Int} (hx : l.getLast? = some x) (h0 : x ≠ 0) : (10 : Int) ^ (l.length - 1) ≤ rv l := by
  obtain ⟨t, rfl⟩ : ∃ t, l = t ++ [x] := by
    obtain ⟨hne, he⟩ := List.getLast?_eq_some_iff.1 hx
    exact ⟨_, he⟩
  have hb := (Dg_append.1 h)
  have hn := rv_nonneg hb.1
  have hx' := hb.2 x (by simp)
  have hp := ten_pos t.length
  rw [rv_append]
  simp only [List.length_append, List.length_singleton, Nat.add_sub_cancel, rv, Int.mul_zero, Int.add_zero]
  have : (10 : Int) ^ t.length * 1 ≤ 10 ^ t.length * x := Int.mul_le_mul_of_nonneg_left (by omega) (Int.le_of_lt hp)
  omega
/-- The order of two numbers, told digit by digit from the top. -/
def sg (x : Int) : Int := if x < 0 then -1 else if 0 < x then 1 else 0
theorem sg_neg {x : Int} (h : x < 0) : sg x = -1 := by simp [sg, h]
theorem sg_pos {x : Int} (h : 0 < x) : sg x = 1 := by
  unfold sg
  rw [if_neg (by omega), if_pos h]
theorem sg_zero : sg 0 = 0 := rfl
theorem sg_opp (x : Int) : sg (-x) = - sg x := by
  unfold sg
  split <;> split <;> (try split) <;> omega
def cmpDn (a b : List Int) : Nat → Int
  | 0 => 0
  | q + 1 => if a.getD q 0 < b.getD q 0 then -1 else if b.getD q 0 < a.getD q 0 then 1 else cmpDn a b q
theorem cmpDn_sg {a b : List Int} (ha : Dg a) (hb : Dg b) : ∀ q, cmpDn a b q = sg (rv (a.take q) - rv (b.take q))
  | 0 => by simp [cmpDn, rv, sg]
  | q + 1 => by
    have ih := cmpDn_sg ha hb q
    rw [rv_take_succ, rv_take_succ]
    have ga := Dg_getD ha q
    have gb := Dg_getD hb q
    have la := rv_nonneg (Dg_take ha q)
    have lb := rv_nonneg (Dg_take hb q)
    have ua := rv_lt (Dg_take ha q)
    have ub := rv_lt (Dg_take hb q)
    have pa : (10 : Int) ^ (a.take q).length ≤ 10 ^ q := ten_le (by simp; omega)
    have pb : (10 : Int) ^ (b.take q).length ≤ 10 ^ q := ten_le (by simp; omega)
    have hp := ten_pos q
    simp only [cmpDn]
    generalize a.getD q 0 = x at *
    generalize b.getD q 0 = y at *
    generalize rv (a.take q) = u at *
    generalize rv (b.take q) = v at *
    by_cases h1 : x < y
    · rw [if_pos h1]
      have h2 : (10 : Int) ^ q * (x + 1) ≤ 10 ^ q * y := Int.mul_le_mul_of_nonneg_left (by omega) (Int.le_of_lt hp)
      rw [Int.mul_add, Int.mul_one] at h2
      rw [sg_neg (by omega)]
    · rw [if_neg h1]
      by_cases h3 : y < x
      · rw [if_pos h3]
        have h2 : (10 : Int) ^ q * (y + 1) ≤ 10 ^ q * x := Int.mul_le_mul_of_nonneg_left (by omega) (Int.le_of_lt hp)
        rw [Int.mul_add, Int.mul_one] at h2
        rw [sg_pos (by omega)]
      · rw [if_neg h3, ih]
        have : x = y := by omega
        subst this
        congr 1
        omega
theorem rv_pos {l : List Int} (h : Dg l) (hx : ∃ x, x ∈ l ∧ x ≠ 0) : 0 < rv l := by
  induction l with
  | nil =>
    obtain ⟨x, hx, _⟩ := hx
    simp at hx
  | cons y t ih =>
    obtain ⟨h1, h2⟩ := Dg_cons.1 h
    have hn := rv_nonneg h2
    obtain ⟨x, hx, h0⟩ := hx
    simp only [rv]
    rcases List.mem_cons.1 hx with rfl | hx
    · omega
    · have := ih h2 ⟨x, hx, h0⟩
      omega
/-- The canonical numbers, the most significant digit first, as the program has them. -/
structure Can (neg : Bool) (l : List Int) (s : Nat) : Prop where
  dg : Dg l
  lt : s < l.length
  tail : 0 < s → l.getLast? ≠ some 0
  head : s + 1 < l.length → l.head? ≠ some 0
  sign : neg = true → ∃ x, x ∈ l ∧ x ≠ 0
def mag (S : Nat) (l : List Int) (s : Nat) : Int := 10 ^ (S - s) * rv l.reverse
def vl (S : Nat) (neg : Bool) (l : List Int) (s : Nat) : Int := if neg = true then - mag S l s else mag S l s
theorem mag_nonneg {S : Nat} {l : List Int} {s : Nat} (h : Dg l) : 0 ≤ mag S l s := Int.mul_nonneg (Int.le_of_lt (ten_pos _)) (rv_nonneg (Dg_reverse.2 h))
theorem mag_pos {S : Nat} {l : List Int} {s : Nat} (h : Dg l) (hx : ∃ x, x ∈ l ∧ x ≠ 0) : 0 < mag S l s := by
  obtain ⟨x, h1, h2⟩ := hx
  exact Int.mul_pos (ten_pos _) (rv_pos (Dg_reverse.2 h) ⟨x, by simpa using h1, h2⟩)
theorem head_reverse {l : List Int} {x : Int} (h : l.getLast? = some x) : ∃ t, l.reverse = x :: t := by
  obtain ⟨hne, he⟩ := List.getLast?_eq_some_iff.1 h
  rw [he]
  exact ⟨_, by simp; rfl⟩
theorem last_reverse (l : List Int) : l.reverse.getLast? = l.head? := by simp
theorem scale_le {S : Nat} {n : Bool} {l m : List Int} {s t : Nat} (hl : Can n l s) (hs : s ≤ S) (h : mag S l s = mag S m t) : s ≤ t := by
  rcases Nat.lt_or_ge t s with hts | hts
  · exfalso
    unfold mag at h
    have e : (10 : Int) ^ (S - t) = 10 ^ (S - s) * (10 * 10 ^ (s - t - 1)) := by
      rw [← ten_succ, ← ten_add]
      congr 1
      omega
    rw [e, Int.mul_assoc] at h
    have h2 := Int.eq_of_mul_eq_mul_left (Int.ne_of_gt (ten_pos (S - s))) h
    have hlen := hl.lt
    cases hx : l.getLast? with
    | none =>
      rw [List.getLast?_eq_none_iff] at hx
      subst hx
      simp at hlen
    | some x =>
      obtain ⟨r, hr⟩ := head_reverse hx
      have hd := Dg_reverse.2 hl.dg
      rw [hr] at h2 hd
      have hx0 := hl.tail (by omega)
      rw [hx] at hx0
      have hx1 := (Dg_cons.1 hd).1
      simp only [rv] at h2
      rw [Int.mul_assoc] at h2
      have : x ≠ 0 := fun h => hx0 (by rw [h])
      omega
  · exact hts
theorem length_le {n n' : Bool} {l m : List Int} {s : Nat} (hl : Can n l s) (hm : Can n' m s) (h : rv l.reverse = rv m.reverse) : m.length ≤ l.length := by
  rcases Nat.lt_or_ge l.length m.length with hlt | hge
  · exfalso
    have h1 := hl.lt
    have h2 := hm.head (by omega)
    cases hx : m.head? with
    | none =>
      rw [List.head?_eq_none_iff] at hx
      subst hx
      simp at hlt
    | some x =>
      rw [hx] at h2
      have h3 := rv_last (Dg_reverse.2 hm.dg) (x := x) (by rw [last_reverse, hx]) (fun h => h2 (by rw [h]))
      have h4 := rv_lt (Dg_reverse.2 hl.dg)
      have h5 : (10 : Int) ^ l.reverse.length ≤ 10 ^ (m.reverse.length - 1) := ten_le (by simp; omega)
      omega
  · exact hge
theorem mag_inj {S : Nat} {n n' : Bool} {l m : List Int} {s t : Nat} (hl : Can n l s) (hm : Can n' m t) (hs : s ≤ S) (ht : t ≤ S) (h : mag S l s = mag S m t) : l = m ∧ s = t := by
  have h1 := scale_le hl hs h
  have h2 := scale_le hm ht h.symm
  obtain rfl : s = t := by omega
  have h3 : rv l.reverse = rv m.reverse := Int.eq_of_mul_eq_mul_left (Int.ne_of_gt (ten_pos (S - s))) h
  have h4 := length_le hl hm h3
  have h5 := length_le hm hl h3.symm
  have h6 := rv_inj (Dg_reverse.2 hl.dg) (Dg_reverse.2 hm.dg) (by simp; omega) h3
  exact ⟨by simpa using h6, rfl⟩
theorem vl_inj {S : Nat} {n n' : Bool} {l m : List Int} {s t : Nat} (hl : Can n l s) (hm : Can n' m t) (hs : s ≤ S) (ht : t ≤ S) (h : vl S n l s = vl S n' m t) : n = n' ∧ l = m ∧ s = t := by
  have a0 := mag_nonneg (S := S) (s := s) hl.dg
  have b0 := mag_nonneg (S := S) (s := t) hm.dg
  cases n <;> cases n' <;> simp only [vl, Bool.false_eq_true, if_false, if_true] at h
  · exact ⟨rfl, mag_inj hl hm hs ht h⟩
  · have := mag_pos (S := S) (s := t) hm.dg (hm.sign rfl)
    omega
  · have := mag_pos (S := S) (s := s) hl.dg (hl.sign rfl)
    omega
  · exact ⟨rfl, mag_inj hl hm hs ht (by omega)⟩

end Go.Proofs.YtdjgiphipjejlaaGreatDoor.B
