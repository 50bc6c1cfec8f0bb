import Derived.Test.YtehaonhgbmlmnaaDoorB6
import Derived.Test.YtehaonhgbmlmnaaDoorPrx13
namespace Go.Proofs.YtehaonhgbmlmnaaDoor.B
open Go.RowKit Go.Proofs.YtehaonhgbmlmnaaDoor Go.Proofs.YtehaonhgbmlmnaaDoor.G Go.Proofs.YtehaonhgbmlmnaaDoor.Pr Go.Proofs.YtehaonhgbmlmnaaDoorW.PrintWords Go.Proofs.YtehaonhgbmlmnaaDoorW.PrintLast
set_option linter.unusedVariables false
set_option linter.unusedSimpArgs false
/-! ### decimal numerals of a fixed width -/
def dgs (n : Nat) : Nat → List UInt8
  | 0 => []
  | w + 1 => dgs (n / 10) w ++ [UInt8.ofNat (48 + n % 10)]
theorem dgt (n : Nat) : (UInt8.ofNat (48 + n % 10)).toNat = 48 + n % 10 := by
  rw [UInt8.toNat_ofNat']; omega
theorem dgs_len : ∀ (w n : Nat), (dgs n w).length = w
  | 0, _ => rfl
  | w + 1, n => by simp [dgs, dgs_len w]
theorem dgs_isD : ∀ (w n : Nat), ∀ b ∈ dgs n w, isD b = true
  | 0, _, b, h => by simp [dgs] at h
  | w + 1, n, b, h => by
    rcases List.mem_append.mp h with h | h
    · exact dgs_isD w _ b h
    · rw [List.mem_singleton.mp h, isD_bt, dgt]; omega
theorem dgs_head : ∀ (w n : Nat), 1 ≤ w → ∃ c r, dgs n w = c :: r ∧ isD c = true := by
  intro w n h
  have hl := dgs_len w n
  cases e : dgs n w with
  | nil => rw [e] at hl; simp at hl; omega
  | cons c r => exact ⟨c, r, rfl, dgs_isD w n c (by rw [e]; simp)⟩
theorem decFrom_snoc {b : UInt8} {d : Nat} (hb : Lib.digitVal b = some d) : ∀ (l : List UInt8) (acc n : Nat), Lib.decFrom acc l = some n → Lib.decFrom acc (l ++ [b]) = some (n * 10 + d)
  | [], acc, n, h => by
    obtain rfl := Option.some.inj h
    simp [Lib.decFrom, hb]
  | a :: l, acc, n, h => by
    simp only [List.cons_append, Lib.decFrom] at h ⊢
    cases hd : Lib.digitVal a with
    | none => rw [hd] at h; cases h
    | some v => rw [hd] at h; exact decFrom_snoc hb l _ n h
theorem dgs_val : ∀ (w n : Nat), Lib.decFrom 0 (dgs n w) = some (n % 10 ^ w)
  | 0, n => by simp [dgs, Lib.decFrom, Nat.mod_one]
  | w + 1, n => by
    have hb : Lib.digitVal (UInt8.ofNat (48 + n % 10)) = some (n % 10) := by
      unfold Lib.digitVal
      rw [dgt, if_pos (by omega)]
      congr 1; omega
    have := decFrom_snoc hb _ 0 _ (dgs_val w (n / 10))
    unfold dgs
    rw [this, Nat.pow_succ, Nat.mul_comm (10 ^ w) 10, Nat.mod_mul]
    congr 1; omega
theorem dgs_atoi (w n : Nat) (h1 : 1 ≤ w) (h2 : w ≤ 18) (hn : n < 10 ^ w) : strconv_Atoi.f (mkB (dgs n w)) = some ((n : Int), none) := by
  obtain ⟨m, e, _, hm⟩ := atoi_dig (dgs n w) (dgs_isD w n) (by rw [dgs_len]; exact h1) (by rw [dgs_len]; exact h2)
  rw [dgs_val, Nat.mod_eq_of_lt hn] at hm
  rw [e, ← Option.some.inj hm]
theorem sz2 (a b : List UInt8) (h : a.length + b.length ≤ 1000) : (mkB a).size + (mkB b).size ≤ 9223372036854775807 := by
  rw [size_mkB, size_mkB]; omega
/-! ### rubriclaw6.decimal -/
theorem dig_e (n : Nat) (hn : n ≤ 1000000000) : (wrap64 (48 + (Int.tmod (n : Int) 10))) % 256 = ((48 + n % 10 : Nat) : Int) := by
  have e1 : Int.tmod (n : Int) 10 = ((n % 10 : Nat) : Int) := by rw [Int.tmod_eq_emod_of_nonneg (by omega)]; omega
  rw [e1, w64 (by omega) (by omega)]; omega
theorem div_e (n : Nat) (hn : n ≤ 1000000000) : wrap64 (Int.tdiv (n : Int) 10) = ((n / 10 : Nat) : Int) := by
  rw [Int.tdiv_eq_ediv_of_nonneg (by omega), w64 (by omega) (by omega)]; omega
theorem decimal_step (k : Nat) (x0 x1 i : Int) (s : ByteArray) (d x0' i' : Int) (t : ByteArray) (h : i < x1) (hd : (wrap64 (48 + (Int.tmod x0 10))) % 256 = d) (hx : wrap64 (Int.tdiv x0 10) = x0') (hi : wrap64 (i + 1) = i') (ht : strOfNums [d] ++ s = t)
    (hs : (strOfNums [d]).size + s.size ≤ 9223372036854775807) : rubriclaw6_decimal.l0 (k + 1) x0 x1 s i = rubriclaw6_decimal.l0 k x0' x1 t i' := by
  subst hd hx hi ht
  simp only [rubriclaw6_decimal.l0]
  rw [if_pos h, Option.bind_some]
  exact if_pos hs
theorem decimal_l0 : ∀ (j i w n : Nat) (acc : List UInt8), i + j = w → w ≤ 20 → acc.length ≤ 100 - j → n ≤ 1000000000 → ∀ k, j + 2 ≤ k →
    rubriclaw6_decimal.l0 k (n : Int) (w : Int) (mkB acc) (i : Int) = some (mkB (dgs n j ++ acc)) := by
  intro j
  induction j with
  | zero =>
    intro i w n acc hi hw ha hn k hk
    obtain ⟨k, rfl⟩ : ∃ q, k = q + 1 := ⟨k - 1, by omega⟩
    simp only [rubriclaw6_decimal.l0]
    rw [if_neg (by omega)]; rfl
  | succ j ih =>
    intro i w n acc hi hw ha hn k hk
    obtain ⟨k, rfl⟩ : ∃ q, k = q + 1 := ⟨k - 1, by omega⟩
    have l9 : ([UInt8.ofNat (48 + n % 10)] ++ acc).length ≤ 100 - j := by rw [List.length_append, List.length_singleton]; omega
    have e6 := sz2 [UInt8.ofNat (48 + n % 10)] acc (by rw [List.length_singleton]; omega)
    have e4 : strOfNums [((48 + n % 10 : Nat) : Int)] = mkB [UInt8.ofNat (48 + n % 10)] := rfl
    rw [decimal_step k (n : Int) (w : Int) (i : Int) (mkB acc) ((48 + n % 10 : Nat) : Int) ((n / 10 : Nat) : Int) ((i + 1 : Nat) : Int) (mkB ([UInt8.ofNat (48 + n % 10)] ++ acc)) (by omega) (dig_e n hn) (div_e n hn) (by rw [w64 (by omega) (by omega)]; omega) (by rw [e4, mkB_append]) (by rw [e4]; exact e6)]
    rw [ih (i + 1) w (n / 10) ([UInt8.ofNat (48 + n % 10)] ++ acc) (by omega) hw l9 (by omega) k (by omega)]
    rw [show dgs n (j + 1) = dgs (n / 10) j ++ [UInt8.ofNat (48 + n % 10)] from rfl, List.append_assoc]

end Go.Proofs.YtehaonhgbmlmnaaDoor.B
