import Derived.Test.YtnafjabpkbahdaaDoorB4a
import Derived.Test.YtnafjabpkbahdaaDoorB6c
import Derived.Test.YtnafjabpkbahdaaDoorB8s
import Derived.Test.YtnafjabpkbahdaaDoorG9
namespace Go.Proofs.YtnafjabpkbahdaaDoor.B
open Go.RowKit Go.Proofs.YtnafjabpkbahdaaDoor Go.Proofs.YtnafjabpkbahdaaDoor.G Go.Proofs.YtnafjabpkbahdaaDoor.Pr Go.Proofs.YtnafjabpkbahdaaDoorW.PrintWords Go.Proofs.YtnafjabpkbahdaaDoorW.PrintLast
set_option linter.unusedVariables false
set_option linter.unusedSimpArgs false
/-! ### the numeral of an int -/
theorem ofNat_toNat {n : Nat} (h : n < 256) : (UInt8.ofNat n).toNat = n := by rw [UInt8.toNat_ofNat']; omega
def DD (u : Nat) : List Int := digl (Lib.decDigits u)
theorem digl_app (a b : List UInt8) : digl (a ++ b) = digl a ++ digl b := by simp [digl]
theorem dd (j : Nat) : ∀ u, u < 10 ^ (j + 1) → (∀ b ∈ Lib.decDigits u, 48 ≤ b.toNat ∧ b.toNat ≤ 57) ∧ (Lib.decDigits u).length ≤ j + 1 ∧ 0 < (Lib.decDigits u).length ∧ rv (DD u).reverse = u := by
  induction j with
  | zero =>
    intro u h
    have h10 : u < 10 := by simpa using h
    have e : Lib.decDigits u = [UInt8.ofNat (48 + u)] := by rw [Lib.decDigits, dif_pos h10]
    have et : (UInt8.ofNat (48 + u)).toNat = 48 + u := ofNat_toNat (by omega)
    unfold DD
    rw [e]
    refine ⟨?_, by simp, by simp, ?_⟩
    · intro b hb; rw [List.mem_singleton.mp hb, et]; omega
    · simp [digl, rv]; omega
  | succ j ih =>
    intro u h
    by_cases h10 : u < 10
    · have e : Lib.decDigits u = [UInt8.ofNat (48 + u)] := by rw [Lib.decDigits, dif_pos h10]
      have et : (UInt8.ofNat (48 + u)).toNat = 48 + u := ofNat_toNat (by omega)
      unfold DD
      rw [e]
      refine ⟨?_, by simp, by simp, ?_⟩
      · intro b hb; rw [List.mem_singleton.mp hb, et]; omega
      · simp [digl, rv]; omega
    · have e : Lib.decDigits u = Lib.decDigits (u / 10) ++ [UInt8.ofNat (48 + u % 10)] := by rw [Lib.decDigits, dif_neg h10]
      have et : (UInt8.ofNat (48 + u % 10)).toNat = 48 + u % 10 := ofNat_toNat (by omega)
      rw [Nat.pow_succ] at h
      obtain ⟨i1, i2, i3, i4⟩ := ih (u / 10) (by omega)
      unfold DD at i4 ⊢
      rw [e]
      refine ⟨?_, by simp; omega, by simp, ?_⟩
      · intro b hb
        rcases List.mem_append.mp hb with hb | hb
        · exact i1 b hb
        · rw [List.mem_singleton.mp hb, et]; omega
      · rw [digl_app, List.reverse_append]
        have e1 : (digl [UInt8.ofNat (48 + u % 10)]).reverse = [((u % 10 : Nat) : Int)] := by simp [digl, et]; omega
        rw [e1, List.singleton_append, rv, i4]
        omega
theorem DD_dg {u : Nat} (h : u < 10 ^ 20) : Dg (DD u) ∧ (DD u).length ≤ 20 ∧ 0 < (DD u).length ∧ rv (DD u).reverse = u := by
  obtain ⟨i1, i2, i3, i4⟩ := dd 19 u h
  refine ⟨?_, by simpa [DD, digl] using i2, by simpa [DD, digl] using i3, i4⟩
  intro x hx
  obtain ⟨b, hb, rfl⟩ := List.mem_map.mp hx
  have := i1 b hb
  omega
theorem trim_itoa (n : Int) (h : n.natAbs < 10 ^ 20) : Lib.trimPrefix (Lib.itoa n) [45] = Lib.decDigits n.natAbs := by
  obtain ⟨i1, i2, i3, i4⟩ := dd 19 n.natAbs h
  unfold Lib.itoa
  by_cases hn : n < 0
  · rw [if_pos hn]
    simp [Lib.trimPrefix, Lib.hasPrefix]
  · rw [if_neg hn, show n.toNat = n.natAbs from by omega]
    cases e : Lib.decDigits n.natAbs with
    | nil => rw [e] at i3; simp at i3
    | cons b r =>
      have hb := i1 b (by rw [e]; simp)
      have h45 : b ≠ 45 := by rintro rfl; revert hb; decide
      simp [Lib.trimPrefix, Lib.hasPrefix, h45, Ne.symm h45]
theorem int_f (S : Nat) (n : Int) (h1 : -9223372036854775808 ≤ n) (h2 : n ≤ 9223372036854775807) :
    ∃ (pn : Bool) (pl : List Int), dec_Int.f n = some (pn, pl, 0) ∧ dec_canon.f (decide (n < 0)) (DD n.natAbs) ((0 : Nat) : Int) = some (pn, pl, 0) ∧ Can pn pl 0 ∧ vl S pn pl 0 = n * 10 ^ S ∧ pl.length ≤ 21 := by
  have hu : n.natAbs < 10 ^ 20 := by omega
  obtain ⟨d1, d2, d3, d4⟩ := DD_dg hu
  obtain ⟨pn, pl, ps, e, hc, hv, hs, hl⟩ := canon_eq S (decide (n < 0)) (DD n.natAbs) 0 d1 (Nat.zero_le _) (Nat.zero_le _) d3 (by omega)
  obtain rfl : ps = 0 := by omega
  refine ⟨pn, pl, ?_, e, hc, ?_, by omega⟩
  · unfold dec_Int.f strconv_Itoa.f
    rw [if_pos ⟨h1, h2⟩, Option.bind_some]
    unfold strings_TrimPrefix.f
    rw [Option.bind_some]
    rw [show Lib.trimPrefix ((⟨(Lib.itoa n).toArray⟩ : ByteArray)).data.toList (⟨#[45]⟩ : ByteArray).data.toList = Lib.decDigits n.natAbs from trim_itoa n hu]
    obtain ⟨i1, i2, i3, i4⟩ := dd 19 n.natAbs hu
    have hdig : dec_digits.f (⟨(Lib.decDigits n.natAbs).toArray⟩ : ByteArray) = some (DD n.natAbs, true) := by
      unfold dec_digits.f
      rw [if_pos (by show (Lib.decDigits n.natAbs).toArray.size ≤ _; simp; omega), if_pos]
      · rfl
      · unfold digOk
        rw [List.all_eq_true]
        intro b hb
        have := i1 b (by simpa using hb)
        simp [this]
    rw [hdig, Option.bind_some]
    simp only []
    have e0 : dec_canon.f (decide (n < 0)) (DD n.natAbs) 0 = some (pn, pl, 0) := e
    rw [e0, Option.bind_some]
  · rw [hv]
    unfold vl mag
    rw [d4, Nat.sub_zero]
    by_cases hn : n < 0
    · rw [if_pos (by simpa using hn), show ((n.natAbs : Nat) : Int) = -n from by omega, Int.mul_neg, Int.neg_neg, Int.mul_comm]
    · rw [if_neg (by simpa using hn), show ((n.natAbs : Nat) : Int) = n from by omega, Int.mul_comm]

end Go.Proofs.YtnafjabpkbahdaaDoor.B
