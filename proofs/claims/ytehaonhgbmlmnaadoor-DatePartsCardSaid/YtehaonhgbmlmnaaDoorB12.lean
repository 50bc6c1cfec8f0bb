import Derived.Test.YtehaonhgbmlmnaaDoorB11
import Derived.Test.YtehaonhgbmlmnaaDoorB4k
import Derived.Test.YtehaonhgbmlmnaaDoorG8
namespace Go.Proofs.YtehaonhgbmlmnaaDoor.B
open Go.RowKit Go.Proofs.YtehaonhgbmlmnaaDoor Go.Proofs.YtehaonhgbmlmnaaDoor.G Go.Proofs.YtehaonhgbmlmnaaDoor.Pr Go.Proofs.YtehaonhgbmlmnaaDoorW.PrintWords Go.Proofs.YtehaonhgbmlmnaaDoorW.PrintLast
set_option linter.unusedVariables false
set_option linter.unusedSimpArgs false
/-! ### DateParts -/
theorem tx_cat (y m d h n s : Nat) : (((((((((((((⟨#[80]⟩ : ByteArray) ++ mkB (nm y)) ++ (⟨#[89]⟩ : ByteArray)) ++ mkB (nm m)) ++ (⟨#[77]⟩ : ByteArray)) ++ mkB (nm d)) ++ (⟨#[68, 84]⟩ : ByteArray)) ++ mkB (nm h)) ++ (⟨#[72]⟩ : ByteArray)) ++ mkB (nm n)) ++ (⟨#[77]⟩ : ByteArray)) ++ mkB (nm s)) ++ (⟨#[46, 53, 83]⟩ : ByteArray)) = mkB (tx y m d h n s) := by
  have b80 : (⟨#[80]⟩ : ByteArray) = mkB [80] := rfl
  have b89 : (⟨#[89]⟩ : ByteArray) = mkB [89] := rfl
  have b77 : (⟨#[77]⟩ : ByteArray) = mkB [77] := rfl
  have b68 : (⟨#[68, 84]⟩ : ByteArray) = mkB [68, 84] := rfl
  have b72 : (⟨#[72]⟩ : ByteArray) = mkB [72] := rfl
  have b46 : (⟨#[46, 53, 83]⟩ : ByteArray) = mkB [46, 53, 83] := rfl
  rw [b80, b89, b77, b68, b72, b46]
  simp only [mkB_append]
  unfold tx
  simp only [List.append_assoc, List.singleton_append, List.cons_append, List.nil_append]
theorem parts_t (a0 a1 a2 a3 a4 a5 : Int) (neg : Bool) (w : World) :
    Calls Tryd.prog 6 #[.int .i64 a0, .int .i64 a1, .int .i64 a2, .int .i64 a3, .int .i64 a4, .int .i64 a5, .bool neg] w fun e w' => e = .returned (.bool true) ∧ Below w.heap.size w w' := by
  refine parts_walk 100 a0 a1 a2 a3 a4 a5 neg (mkB (nm a0.toNat)) (mkB (nm a1.toNat)) (mkB (nm a2.toNat)) (mkB (nm a3.toNat)) (mkB (nm a4.toNat)) (mkB (nm a5.toNat)) w (known_k (by omega)) ?_
  intro ⟨u0, v0⟩ ⟨u1, v1⟩ ⟨u2, v2⟩ ⟨u3, v3⟩ ⟨u4, v4⟩ ⟨u5, v5⟩
  obtain ⟨y, rfl⟩ := Int.eq_ofNat_of_zero_le u0
  obtain ⟨m, rfl⟩ := Int.eq_ofNat_of_zero_le u1
  obtain ⟨d, rfl⟩ := Int.eq_ofNat_of_zero_le u2
  obtain ⟨h, rfl⟩ := Int.eq_ofNat_of_zero_le u3
  obtain ⟨n, rfl⟩ := Int.eq_ofNat_of_zero_le u4
  obtain ⟨s, rfl⟩ := Int.eq_ofNat_of_zero_le u5
  simp only [Int.toNat_natCast]
  have ly := nm_len y; have lm := nm_len m; have ld := nm_len d; have lh := nm_len h; have ln := nm_len n; have ls := nm_len s
  refine ⟨number_f y (by omega) 100 (by omega), number_f m (by omega) 100 (by omega), number_f d (by omega) 100 (by omega), number_f h (by omega) 100 (by omega), number_f n (by omega) 100 (by omega), number_f s (by omega) 100 (by omega), ?_, ?_⟩
  · simp only [size_mkB]; omega
  · rw [tx_cat]
    have := span_f y m d h n s (by omega) (by omega) (by omega) (by omega) (by omega) (by omega) neg 100 (by omega)
    cases neg with
    | true =>
      simp only [if_true] at this ⊢
      rw [show (⟨#[45]⟩ : ByteArray) = mkB [45] from rfl, mkB_append]
      exact this
    | false =>
      simp only [Bool.false_eq_true, if_false] at this ⊢
      exact this

end Go.Proofs.YtehaonhgbmlmnaaDoor.B
