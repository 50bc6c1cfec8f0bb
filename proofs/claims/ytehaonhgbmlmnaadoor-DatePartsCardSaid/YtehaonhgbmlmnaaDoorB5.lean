import Derived.Test.YtehaonhgbmlmnaaDoorB4k
import Derived.Test.YtehaonhgbmlmnaaDoorG5
import Derived.Test.YtehaonhgbmlmnaaDoorPrx8
namespace Go.Proofs.YtehaonhgbmlmnaaDoor.B
open Go.RowKit Go.Proofs.YtehaonhgbmlmnaaDoor Go.Proofs.YtehaonhgbmlmnaaDoor.G Go.Proofs.YtehaonhgbmlmnaaDoor.Pr Go.Proofs.YtehaonhgbmlmnaaDoorW.PrintWords Go.Proofs.YtehaonhgbmlmnaaDoorW.PrintLast
set_option linter.unusedVariables false
set_option linter.unusedSimpArgs false
/-! ### texts as lists -/
def lst (s : ByteArray) : List UInt8 := s.data.toList
def mkB (l : List UInt8) : ByteArray := ⟨l.toArray⟩
theorem lst_mkB (l : List UInt8) : lst (mkB l) = l := by simp [lst, mkB]
theorem mkB_lst (s : ByteArray) : mkB (lst s) = s := by obtain ⟨⟨a⟩⟩ := s; rfl
theorem lst_length (s : ByteArray) : (lst s).length = s.size := by simp [lst]
theorem size_mkB (l : List UInt8) : (mkB l).size = l.length := by rw [← lst_length, lst_mkB]
theorem lst_append (s t : ByteArray) : lst (s ++ t) = lst s ++ lst t := by simp [lst]
theorem mkB_append (a b : List UInt8) : mkB a ++ mkB b = mkB (a ++ b) := by
  have h : lst (mkB a ++ mkB b) = lst (mkB (a ++ b)) := by rw [lst_append, lst_mkB, lst_mkB, lst_mkB]
  rw [← mkB_lst (mkB a ++ mkB b), h, mkB_lst]
theorem lst_extract (s : ByteArray) (a b : Nat) : lst (s.extract a b) = ((lst s).take b).drop a := by
  simp [lst, List.drop_take]
theorem extract_mkB (l : List UInt8) (a b : Nat) : (mkB l).extract a b = mkB ((l.take b).drop a) := by
  rw [← mkB_lst ((mkB l).extract a b), lst_extract, lst_mkB]
theorem bt_get (l : List UInt8) (i : Nat) (h : i < l.length) : bt (mkB l) (i : Int) = (l[i].toNat : Int) := by
  unfold bt
  rw [dif_pos (by rw [size_mkB]; simpa using h)]
  simp [mkB]
  rfl
theorem isD_bt (b : UInt8) : isD b = true ↔ 48 ≤ (b.toNat : Int) ∧ (b.toNat : Int) ≤ 57 := isD_iff b
/-! ### digits -/
def nd (l : List UInt8) (hi : Nat) : Nat := min (lead l) (hi + 1)
theorem nd_le (l : List UInt8) (hi : Nat) : nd l hi ≤ l.length := by have := lead_le l; unfold nd; omega
def dres (l : List UInt8) (b : Bool) (lo hi : Nat) : ByteArray × ByteArray × Bool :=
  if nd l hi < lo ∨ hi < nd l hi then (⟨#[48]⟩, mkB l, true) else (mkB (l.take (nd l hi)), mkB (l.drop (nd l hi)), b)
theorem digits_l0 (l : List UInt8) (b : Bool) (lo hi : Nat) (hh : hi ≤ 1000) (hl : lo ≤ 1000) (hs : l.length ≤ 1000000) : ∀ (n i : Nat), i + n = nd l hi → ∀ k, n + 2 ≤ k →
    date_reader_digits.l0 k (lo : Int) (hi : Int) (i : Int) (mkB l) b = some (dres l b lo hi) := by
  have hle := nd_le l hi
  intro n
  induction n with
  | zero =>
    intro i hi' k hk
    obtain ⟨k, rfl⟩ : ∃ q, k = q + 1 := ⟨k - 1, by omega⟩
    obtain rfl : i = nd l hi := by omega
    have fin : (if ((nd l hi : Nat) : Int) < (lo : Int) then some ((⟨#[48]⟩ : ByteArray), mkB l, true) else if ((nd l hi : Nat) : Int) > (hi : Int) then some ((⟨#[48]⟩ : ByteArray), mkB l, true) else
        if ((nd l hi : Nat) : Int) ≤ ((mkB l).size : Int) then some ((mkB l).extract 0 ((nd l hi : Nat) : Int).toNat, (mkB l).extract ((nd l hi : Nat) : Int).toNat (mkB l).size, b) else none) = some (dres l b lo hi) := by
      unfold dres
      by_cases h1 : nd l hi < lo
      · rw [if_pos (by omega), if_pos (.inl h1)]
      rw [if_neg (by omega)]
      by_cases h2 : hi < nd l hi
      · rw [if_pos (by omega), if_pos (.inr h2)]
      rw [if_neg (by omega), if_pos (by rw [size_mkB]; omega), Int.toNat_natCast, extract_mkB, extract_mkB, size_mkB, if_neg (by omega)]
      simp
    have fin2 : (if ((nd l hi : Nat) : Int) < (lo : Int) then some ((⟨#[48]⟩ : ByteArray), mkB l, true) else if ((nd l hi : Nat) : Int) > (hi : Int) then some ((⟨#[48]⟩ : ByteArray), mkB l, true) else
        if 0 ≤ ((nd l hi : Nat) : Int) then (if ((nd l hi : Nat) : Int) ≤ ((mkB l).size : Int) then some ((mkB l).extract 0 ((nd l hi : Nat) : Int).toNat, (mkB l).extract ((nd l hi : Nat) : Int).toNat (mkB l).size, b) else none) else none) = some (dres l b lo hi) := by
      rw [if_pos (c := 0 ≤ ((nd l hi : Nat) : Int)) (by omega)]
      exact fin
    simp only [date_reader_digits.l0]
    rw [size_mkB] at fin fin2 ⊢
    by_cases c1 : ((nd l hi : Nat) : Int) < (l.length : Int)
    · rw [if_pos c1]
      by_cases c2 : ((nd l hi : Nat) : Int) ≤ (hi : Int)
      · have hlead : nd l hi = lead l := by unfold nd at c2 ⊢; omega
        have hend := lead_end l (by omega)
        have hb : bt (mkB l) ((nd l hi : Nat) : Int) = (l[lead l].toNat : Int) := by rw [bt_get l (nd l hi) (by omega)]; simp only [hlead]
        rw [if_pos c2, if_pos (by omega)]
        have hnd : ¬ (48 ≤ (l[lead l].toNat : Int) ∧ (l[lead l].toNat : Int) ≤ 57) := fun h => by
          have := (isD_bt _).mpr h
          rw [hend] at this
          exact absurd this (by decide)
        rw [hb]
        by_cases c3 : (l[lead l].toNat : Int) ≥ 48
        · rw [if_pos c3, if_neg (by omega)]
          exact fin
        · rw [if_neg c3]
          exact fin
      · rw [if_neg c2]
        exact fin2
    · rw [if_neg c1]
      exact fin2
  | succ n ih =>
    intro i hi' k hk
    obtain ⟨k, rfl⟩ : ∃ q, k = q + 1 := ⟨k - 1, by omega⟩
    have h1 : i < lead l := by unfold nd at hi'; omega
    have h2 : i < hi + 1 := by unfold nd at hi'; omega
    have h3 : i < l.length := by omega
    have hd := (isD_bt _).mp (lead_at l i h1 h3)
    simp only [date_reader_digits.l0]
    rw [if_pos (by rw [size_mkB]; omega), if_pos (by omega), if_pos (by omega), bt_get l i h3, if_pos hd.1, if_pos hd.2, w64 (by omega) (by omega)]
    exact ih (i + 1) (by omega) k (by omega)
theorem digits_f (l : List UInt8) (b : Bool) (lo hi : Nat) (hh : hi ≤ 1000) (hl : lo ≤ 1000) (hs : l.length ≤ 1000000) (k : Nat) (hk : hi + 3 ≤ k) :
    date_reader_digits.f k (mkB l) b (lo : Int) (hi : Int) = some (dres l b lo hi) := by
  unfold date_reader_digits.f
  exact digits_l0 l b lo hi hh hl hs (nd l hi) 0 (by omega) k (by unfold nd; omega)
/-- A row of digits ahead of what is none. -/
theorem lead_pre (a r : List UInt8) (h1 : ∀ b ∈ a, isD b = true) (h2 : ∀ b, r.head? = some b → isD b = false) : lead (a ++ r) = a.length := by
  unfold lead
  rw [List.takeWhile_append_of_pos h1]
  cases r with
  | nil => simp
  | cons b r => rw [List.takeWhile_cons, if_neg (by rw [h2 b rfl]; decide)]; simp
theorem digits_at (a r : List UInt8) (b : Bool) (lo hi : Nat) (h1 : ∀ b ∈ a, isD b = true) (h2 : ∀ b, r.head? = some b → isD b = false) (l1 : lo ≤ a.length) (l2 : a.length ≤ hi) (hh : hi ≤ 1000) (hs : r.length ≤ 900000)
    (k : Nat) (hk : hi + 3 ≤ k) : date_reader_digits.f k (mkB (a ++ r)) b (lo : Int) (hi : Int) = some (mkB a, mkB r, b) := by
  rw [digits_f (a ++ r) b lo hi hh (by omega) (by simp; omega) k hk]
  have hn : nd (a ++ r) hi = a.length := by unfold nd; rw [lead_pre a r h1 h2]; omega
  unfold dres
  rw [hn, if_neg (by omega)]
  simp
/-! ### signs -/
theorem takes_cons (c : UInt8) (r : List UInt8) (b : Bool) (q : Int) : date_reader_takes.f (mkB (c :: r)) b q = some (if (c.toNat : Int) = q then (true, mkB r, b) else (false, mkB (c :: r), b)) := by
  unfold date_reader_takes.f
  have e : (mkB (c :: r)).toList = c :: r := by rw [ByteArray.toList_eq]; exact lst_mkB _
  have hb := bt_get (c :: r) 0 (by simp)
  rw [show (((0 : Nat) : Int)) = 0 from rfl] at hb
  rw [e, if_neg (by simp), if_pos (by rw [size_mkB]; simp), hb]
  simp only [List.getElem_cons_zero]
  by_cases h : (c.toNat : Int) = q
  · rw [if_pos h, if_pos h, if_pos (by rw [size_mkB]; simp; omega), extract_mkB, size_mkB]
    simp
  · rw [if_neg h, if_neg h]
theorem takes_nil (b : Bool) (q : Int) : date_reader_takes.f (mkB []) b q = some (false, mkB [], b) := by
  unfold date_reader_takes.f
  rw [if_pos (by rw [ByteArray.toList_eq]; exact lst_mkB _)]

end Go.Proofs.YtehaonhgbmlmnaaDoor.B
