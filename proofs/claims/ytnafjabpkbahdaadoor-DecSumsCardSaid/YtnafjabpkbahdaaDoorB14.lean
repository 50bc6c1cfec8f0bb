import Derived.Test.YtnafjabpkbahdaaDoorB13
namespace Go.Proofs.YtnafjabpkbahdaaDoor.B
open Go.RowKit Go.Proofs.YtnafjabpkbahdaaDoor Go.Proofs.YtnafjabpkbahdaaDoor.G Go.Proofs.YtnafjabpkbahdaaDoor.Pr Go.Proofs.YtnafjabpkbahdaaDoorW.PrintWords Go.Proofs.YtnafjabpkbahdaaDoorW.PrintLast
set_option linter.unusedVariables false
set_option linter.unusedSimpArgs false
/-! ### the reference's Int -/
theorem uw {x : Int} (h1 : 0 ≤ x) (h2 : x < 18446744073709551616) : IntKind.u64.wrap x = x := by
  simp [IntKind.wrap, IntKind.bits, IntKind.signed]
  omega
theorem DD_small {u : Nat} (h : u < 10) : DD u = [(u : Int)] := by
  unfold DD
  rw [Lib.decDigits, dif_pos h]
  have := ofNat_toNat (n := 48 + u) (by omega)
  simp [digl, this]; omega
theorem DD_big {u : Nat} (h : ¬ u < 10) : DD u = DD (u / 10) ++ [((u % 10 : Nat) : Int)] := by
  unfold DD
  rw [show Lib.decDigits u = Lib.decDigits (u / 10) ++ [UInt8.ofNat (48 + u % 10)] from by rw [Lib.decDigits, dif_neg h], digl_app]
  have := ofNat_toNat (n := 48 + u % 10) (by omega)
  congr 1
  simp [digl, this]; omega
theorem rint_end (x0 : Int) (l : List Int) (hl : 0 < l.length) {r1 : Bool} {r2 : List Int} {r3 : Int} (hc : Ev (fun k => rubricref5_canon.f k (decide (x0 < 0)) l 0) (r1, r2, r3)) : Ev (fun k => rubricref5_Int.l0 k x0 0 l) (r1, r2, r3) := by
  refine Ev.step (f := fun k => (rubricref5_canon.f k (decide (x0 < 0)) l 0).bind fun bt252 => some (bt252.1, bt252.2.1, bt252.2.2)) (fun k => ?_) (Ev.bind hc (Ev.now _))
  simp only [rubricref5_Int.l0]
  rw [if_neg (by omega), if_neg (by omega)]
theorem rint_step (x0 : Int) (u : Nat) (l : List Int) (h : u < 18446744073709551616) (hl : l.length ≤ 100) (hu : 0 < u ∨ l.length = 0) (k : Nat) : rubricref5_Int.l0 (k + 1) x0 (u : Int) l = rubricref5_Int.l0 k x0 ((u / 10 : Nat) : Int) (((u % 10 : Nat) : Int) :: l) := by
  have e1 : (Int.tmod (u : Int) 10) % 256 = ((u % 10 : Nat) : Int) := by rw [Int.tmod_eq_emod_of_nonneg (by omega)]; omega
  have e2 : IntKind.u64.wrap (Int.tdiv (u : Int) 10) = ((u / 10 : Nat) : Int) := by rw [Int.tdiv_eq_ediv_of_nonneg (by omega), uw (by omega) (by omega)]; omega
  have hlen : ([((u % 10 : Nat) : Int)] : List Int).length + l.length < 140737488355328 := by simp; omega
  simp only [rubricref5_Int.l0, e1, e2]
  by_cases hp : 0 < u
  · rw [if_pos (by omega), Option.bind_some, if_pos hlen]; rfl
  · rw [if_neg (by omega), if_pos (by omega), Option.bind_some, if_pos hlen]; rfl
theorem rint_l0 (x0 : Int) {r1 : Bool} {r2 : List Int} {r3 : Int} (j : Nat) (hj : j ≤ 30) : ∀ (u : Nat) (l : List Int), u < 10 ^ (j + 1) → u < 18446744073709551616 → l.length + j ≤ 90 → (0 < u ∨ l.length = 0) →
    Ev (fun k => rubricref5_canon.f k (decide (x0 < 0)) (DD u ++ l) 0) (r1, r2, r3) → Ev (fun k => rubricref5_Int.l0 k x0 (u : Int) l) (r1, r2, r3) := by
  induction j with
  | zero =>
    intro u l h h64 hl hu hc
    have h10 : u < 10 := by simpa using h
    refine Ev.step (f := fun k => rubricref5_Int.l0 k x0 ((u / 10 : Nat) : Int) (((u % 10 : Nat) : Int) :: l)) (fun k => rint_step x0 u l h64 (by omega) hu k) ?_
    rw [show u / 10 = 0 from by omega, show u % 10 = u from by omega]
    rw [DD_small h10] at hc
    exact rint_end x0 _ (by simp) hc
  | succ j ih =>
    intro u l h h64 hl hu hc
    refine Ev.step (f := fun k => rubricref5_Int.l0 k x0 ((u / 10 : Nat) : Int) (((u % 10 : Nat) : Int) :: l)) (fun k => rint_step x0 u l h64 (by omega) hu k) ?_
    by_cases h10 : u < 10
    · rw [show u / 10 = 0 from by omega, show u % 10 = u from by omega]
      rw [DD_small h10] at hc
      exact rint_end x0 _ (by simp) hc
    · rw [DD_big h10, List.append_assoc] at hc
      rw [Nat.pow_succ] at h
      exact ih (by omega) (u / 10) _ (by omega) (by omega) (by simp; omega) (.inl (by omega)) hc
theorem rint_ev (n : Int) (h1 : -9223372036854775808 ≤ n) (h2 : n ≤ 9223372036854775807) {r1 : Bool} {r2 : List Int} {r3 : Int} (h : dec_canon.f (decide (n < 0)) (DD n.natAbs) ((0 : Nat) : Int) = some (r1, r2, r3)) : Ev (fun k => rubricref5_Int.f k n) (r1, r2, r3) := by
  have hu : n.natAbs < 10 ^ 20 := by omega
  have hc := rcanon_ev _ _ 0 h
  have hmain := rint_l0 n (r1 := r1) (r2 := r2) (r3 := r3) 19 (by omega) n.natAbs [] hu (by omega) (by simp) (.inr rfl) (by rw [List.append_nil]; exact hc)
  have hj : Ev (fun k => rubricref5_Int.j0 k n (n.natAbs : Int)) (r1, r2, r3) := Ev.step (f := fun k => rubricref5_Int.l0 k n (n.natAbs : Int) []) (fun k => by simp only [rubricref5_Int.j0]) hmain
  refine Ev.congr (f := fun k => rubricref5_Int.j0 k n (n.natAbs : Int)) (fun k => ?_) hj
  unfold rubricref5_Int.f
  by_cases hn : n < 0
  · rw [if_pos hn]
    congr 1
    have e : IntKind.u64.wrap n = n + 18446744073709551616 := by simp [IntKind.wrap, IntKind.bits, IntKind.signed]; omega
    rw [e]
    simp [IntKind.wrap, IntKind.bits, IntKind.signed]; omega
  · rw [if_neg hn, uw (by omega) (by omega)]
    congr 1; omega

end Go.Proofs.YtnafjabpkbahdaaDoor.B
