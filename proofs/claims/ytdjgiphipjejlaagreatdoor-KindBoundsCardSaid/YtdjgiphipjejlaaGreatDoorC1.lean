import Derived.Test.YtdjgiphipjejlaaGreatDoorC0
import Derived.Test.YtdjgiphipjejlaaGreatDoorPrx3
import Derived.Test.YtdjgiphipjejlaaGreatDoorG8
namespace Go.Proofs.YtdjgiphipjejlaaGreatDoor.B
open Go.RowKit Go.Proofs.YtdjgiphipjejlaaGreatDoor Go.Proofs.YtdjgiphipjejlaaGreatDoor.G Go.Proofs.YtdjgiphipjejlaaGreatDoor.Pr Go.Proofs.YtdjgiphipjejlaaGreatDoorW.PrintWords Go.Proofs.YtdjgiphipjejlaaGreatDoorW.PrintLast
set_option linter.unusedVariables false
set_option linter.unusedSimpArgs false
theorem w64 {x : Int} (h1 : -9223372036854775808 ≤ x) (h2 : x ≤ 9223372036854775807) : wrap64 x = x := by unfold wrap64; omega
/-- Bounds within which nothing wraps. -/
structure Bd (l : List Int) (s : Nat) : Prop where
  dg : Dg l
  len : l.length ≤ 1048576
  le : s ≤ l.length
def dgs (S : Nat) (l : List Int) (s : Nat) : List Int := List.replicate (S - s) 0 ++ l.reverse
theorem rv_dgs (S : Nat) (l : List Int) (s : Nat) : rv (dgs S l s) = mag S l s := by
  rw [dgs, rv_append, rv_zeros, List.length_replicate]
  simp [mag]
theorem Dg_dgs {S : Nat} {l : List Int} {s : Nat} (h : Dg l) : Dg (dgs S l s) := Dg_append.2 ⟨Dg_zeros _, Dg_reverse.2 h⟩
theorem dgs_length (S : Nat) (l : List Int) (s : Nat) : (dgs S l s).length = S - s + l.length := by simp [dgs]
theorem at_eq (n : Bool) {l : List Int} {s S : Nat} (h : Bd l s) (hsS : s ≤ S) (hS : S ≤ 1048576) (q : Nat) (hq : q ≤ 4194304) (p : Int) (hp : p = (q : Int) - S) :
    dec_Dec_at.f n l (s : Int) p = some ((dgs S l s).getD q 0) := by
  have h1 := h.len
  have h2 := h.le
  unfold dec_Dec_at.f
  rw [w64 (x := (l.length : Int) - s) (by omega) (by omega), w64 (x := (l.length : Int) - s - 1) (by omega) (by omega), w64 (x := (l.length : Int) - s - 1 - p) (by omega) (by omega)]
  have hdl := dgs_length S l s
  by_cases c1 : (l.length : Int) - s - 1 - p < 0
  · rw [if_pos c1, List.getD_eq_getElem?_getD, List.getElem?_eq_none (by omega)]
    rfl
  · rw [if_neg c1]
    by_cases c2 : (l.length : Int) - s - 1 - p ≥ l.length
    · rw [if_pos c2]
      unfold dgs
      rw [List.getD_eq_getElem?_getD, List.getElem?_append_left (by simp; omega), List.getElem?_replicate, if_pos (by omega)]
      rfl
    · rw [if_neg c2, if_pos (by omega), if_pos (by omega)]
      have hi : ((l.length : Int) - s - 1 - p).toNat < l.length := by omega
      have e : (dgs S l s).getD q 0 = rd l ((l.length : Int) - s - 1 - p) := by
        unfold dgs rd
        rw [List.getD_eq_getElem?_getD, List.getD_eq_getElem?_getD, List.getElem?_append_right (by simp; omega), List.length_replicate, List.getElem?_reverse (by omega)]
        congr 2
        omega
      have hr := Dg_getD h.dg ((l.length : Int) - s - 1 - p).toNat
      rw [e, w64 (by unfold rd; omega) (by unfold rd; omega)]
theorem span_eq (n n' : Bool) {l m : List Int} {s t : Nat} (h : Bd l s) (h' : Bd m t) :
    dec_span.f n l s n' m t = some (max ((l.length : Int) - s) ((m.length : Int) - t) - 1, - max (s : Int) (t : Int)) := by
  have h1 := h.len
  have h2 := h.le
  have h3 := h'.len
  have h4 := h'.le
  unfold dec_span.f
  rw [w64 (x := (l.length : Int) - s) (by omega) (by omega), w64 (x := (m.length : Int) - t) (by omega) (by omega)]
  have e : ∀ a b : Int, mx a b = max a b := fun a b => by unfold mx; omega
  rw [e, e, w64 (by omega) (by omega), w64 (by omega) (by omega)]
theorem size_l0 (n n' : Bool) {l m : List Int} {s t S : Nat} (h : Bd l s) (h' : Bd m t) (h1 : s ≤ S) (h2 : t ≤ S) (hS : S ≤ 1048576) :
    ∀ (q k : Nat), q ≤ 4194304 → q < k → dec_size.l0 k (-(S : Int)) ((q : Int) - 1 - S) n l s n' m t = some (cmpDn (dgs S l s) (dgs S m t) q)
  | 0, k, _, hk => by
    obtain ⟨k, rfl⟩ : ∃ j, k = j + 1 := ⟨k - 1, by omega⟩
    simp only [dec_size.l0]
    rw [if_neg (by omega)]
    rfl
  | q + 1, k, hq, hk => by
    obtain ⟨k, rfl⟩ : ∃ j, k = j + 1 := ⟨k - 1, by omega⟩
    simp only [dec_size.l0]
    rw [if_pos (by omega), at_eq n h h1 hS q (by omega) _ (by omega), at_eq n' h' h2 hS q (by omega) _ (by omega)]
    simp only [Option.bind_some, cmpDn]
    split
    · rfl
    · split
      · rfl
      · rw [w64 (by omega) (by omega), show (((q + 1 : Nat) : Int) - 1 - S - 1) = (q : Int) - 1 - S by omega]
        exact size_l0 n n' h h' h1 h2 hS q k (by omega) (by omega)
theorem mag_scale {S S' : Nat} (l : List Int) (s : Nat) (h : s ≤ S) (h' : S ≤ S') : mag S' l s = 10 ^ (S' - S) * mag S l s := by
  unfold mag
  rw [← Int.mul_assoc, ← ten_add]
  congr 2
  omega
theorem sg_scale {c : Int} (hc : 0 < c) (x : Int) : sg (c * x) = sg x := by
  rcases Int.lt_trichotomy x 0 with h | h | h
  · rw [sg_neg h, sg_neg (Int.mul_neg_of_pos_of_neg hc h)]
  · rw [h, Int.mul_zero]
  · rw [sg_pos h, sg_pos (Int.mul_pos hc h)]
theorem size_ev (n n' : Bool) {l m : List Int} {s t S : Nat} (h : Bd l s) (h' : Bd m t) (h1 : s ≤ S) (h2 : t ≤ S) (hpos : 0 < l.length) (hpos' : 0 < m.length) (hsl : s < l.length) :
    Ev (fun k => dec_size.f k n l s n' m t) (sg (mag S l s - mag S m t)) := by
  have a1 := h.len
  have a2 := h.le
  have a3 := h'.len
  have a4 := h'.le
  refine ⟨4194305, fun k hk => ?_⟩
  unfold dec_size.f
  rw [span_eq n n' h h']
  simp only [Option.bind_some]
  obtain ⟨M, hM⟩ : ∃ M : Nat, M = max s t := ⟨_, rfl⟩
  obtain ⟨Q, hQ⟩ : ∃ Q : Nat, (Q : Int) = max ((l.length : Int) - s) ((m.length : Int) - t) + M := ⟨(max ((l.length : Int) - s) ((m.length : Int) - t) + M).toNat, by omega⟩
  rw [show -max (s : Int) (t : Int) = -(M : Int) by omega, show max ((l.length : Int) - s) ((m.length : Int) - t) - 1 = (Q : Int) - 1 - M by omega]
  rw [size_l0 n n' h h' (S := M) (by omega) (by omega) (by omega) Q k (by omega) (by omega), cmpDn_sg (Dg_dgs h.dg) (Dg_dgs h'.dg)]
  have b1 := dgs_length M l s
  have b2 := dgs_length M m t
  rw [List.take_of_length_le (by omega), List.take_of_length_le (by omega), rv_dgs, rv_dgs, mag_scale l s (S := M) (S' := S) (by omega) (by omega), mag_scale m t (S := M) (S' := S) (by omega) (by omega), ← Int.mul_sub, sg_scale (ten_pos _)]
/-! canon -/
theorem trimT_spec (S : Nat) : ∀ (s : Nat) (l : List Int), Dg l → s ≤ l.length → s ≤ S →
    Dg (trimT l s).1 ∧ mag S (trimT l s).1 (trimT l s).2 = mag S l s ∧ (0 < (trimT l s).2 → (trimT l s).1.getLast? ≠ some 0) ∧ (trimT l s).2 ≤ s ∧ (trimT l s).2 + l.length = (trimT l s).1.length + s
  | 0, l, hd, _, _ => ⟨hd, rfl, fun h => absurd h (by simp [trimT]), by simp [trimT], by simp [trimT]⟩
  | s + 1, l, hd, hs, hS => by
    obtain ⟨l', x, rfl⟩ : ∃ l' x, l = l' ++ [x] := ⟨l.dropLast, l.getLast (by intro h; subst h; simp at hs), (List.dropLast_concat_getLast _).symm⟩
    have hg : (l' ++ [x]).getD ((l' ++ [x]).length - 1) 0 = x := by simp [List.getD_eq_getElem?_getD]
    have ht : (l' ++ [x]).take ((l' ++ [x]).length - 1) = l' := by simp
    simp only [trimT]
    rw [hg, ht]
    by_cases hx : x = 0
    · rw [if_pos hx]
      subst hx
      simp only [List.length_append, List.length_singleton] at hs
      obtain ⟨i1, i2, i3, i4, i5⟩ := trimT_spec S s l' (Dg_append.1 hd).1 (by omega) (by omega)
      refine ⟨i1, i2.trans ?_, i3, by omega, by simp; omega⟩
      unfold mag
      rw [List.reverse_append, List.reverse_singleton, List.singleton_append]
      simp only [rv]
      rw [show S - s = (S - (s + 1)) + 1 by omega, ten_succ, Int.mul_assoc, Int.mul_left_comm]
      simp
    · rw [if_neg hx]
      refine ⟨hd, rfl, fun _ => ?_, Nat.le_refl _, by simp only []; omega⟩
      simp only [List.getLast?_append, List.getLast?_singleton]
      simpa using hx
theorem trimH_spec (s : Nat) : ∀ (l : List Int), Dg l → s ≤ l.length →
    Dg (trimH s l) ∧ rv (trimH s l).reverse = rv l.reverse ∧ (s + 1 < (trimH s l).length → (trimH s l).head? ≠ some 0) ∧ s ≤ (trimH s l).length ∧ (trimH s l).length ≤ l.length ∧ (trimH s l).getLast? = l.getLast?
  | [], hd, hs => ⟨hd, rfl, fun h => absurd h (by simp [trimH]), hs, Nat.le_refl _, rfl⟩
  | x :: t, hd, hs => by
    simp only [trimH]
    split
    · rename_i hc
      obtain ⟨h1, rfl⟩ := hc
      obtain ⟨i1, i2, i3, i4, i5, i6⟩ := trimH_spec s t (Dg_cons.1 hd).2 (by omega)
      refine ⟨i1, ?_, i3, i4, by simp only [List.length_cons]; omega, ?_⟩
      · rw [i2, List.reverse_cons, rv_append]
        simp [rv]
      · rw [i6]
        cases t with
        | nil => simp at h1
        | cons y t => simp
    · rename_i hc
      refine ⟨hd, rfl, fun h => ?_, hs, Nat.le_refl _, rfl⟩
      simp only [List.length_cons] at h
      simp only [List.head?_cons]
      intro e
      injection e with e
      exact hc ⟨h, e⟩
theorem canonL_spec (S : Nat) (l : List Int) (s : Nat) (hd : Dg l) (hs : s ≤ l.length) (hS : s ≤ S) (h0 : 0 < l.length) :
    Dg (canonL l s).1 ∧ mag S (canonL l s).1 (canonL l s).2 = mag S l s ∧ (canonL l s).2 < (canonL l s).1.length ∧ (0 < (canonL l s).2 → (canonL l s).1.getLast? ≠ some 0) ∧ ((canonL l s).2 + 1 < (canonL l s).1.length → (canonL l s).1.head? ≠ some 0) ∧ (canonL l s).2 ≤ s ∧ (canonL l s).1.length ≤ l.length + 1 := by
  obtain ⟨a1, a2, a3, a4, a5⟩ := trimT_spec S s l hd hs hS
  unfold canonL
  generalize (trimT l s).1 = l1 at *
  generalize (trimT l s).2 = s1 at *
  obtain ⟨b1, b2, b3, b4, b5, b6⟩ := trimH_spec s1 l1 a1 (by omega)
  simp only
  generalize trimH s1 l1 = l2 at *
  have hm : mag S l2 s1 = mag S l s := by
    rw [← a2]
    unfold mag
    rw [b2]
  unfold padH
  split
  · rename_i hp
    refine ⟨Dg_cons.2 ⟨by omega, b1⟩, ?_, by simp only [List.length_cons]; omega, fun h => ?_, fun h => ?_, a4, by simp only [List.length_cons]; omega⟩
    · rw [← hm]
      unfold mag
      rw [List.reverse_cons, rv_append]
      simp [rv]
    · have := a3 h
      rw [← b6] at this
      cases l2 with
      | nil => simp at b4; omega
      | cons y t => simpa using this
    · simp only [List.length_cons] at h
      omega
  · rename_i hp
    exact ⟨b1, hm, by omega, fun h => by rw [b6]; exact a3 h, b3, a4, by omega⟩
theorem all_zero {l : List Int} (h : l.all (· == 0) = true) : ∀ x, x ∈ l → x = 0 := by
  rw [List.all_eq_true] at h
  intro x hx
  simpa using h x hx
theorem rv_of_zero {l : List Int} (h : ∀ x, x ∈ l → x = 0) : rv l = 0 := by
  induction l with
  | nil => rfl
  | cons x t ih =>
    simp only [rv]
    rw [h x (by simp), ih (fun y hy => h y (by simp [hy]))]
    rfl
theorem not_all {l : List Int} (h : (!l.all (· == 0)) = true) : ∃ x, x ∈ l ∧ x ≠ 0 := by
  simp only [Bool.not_eq_true', List.all_eq_false] at h
  obtain ⟨x, hx, h0⟩ := h
  exact ⟨x, hx, by simpa using h0⟩
/-- What the program's canon hands back. -/
theorem canon_eq (S : Nat) (n : Bool) (l : List Int) (s : Nat) (hd : Dg l) (hs : s ≤ l.length) (hS : s ≤ S) (h0 : 0 < l.length) (hl : l.length ≤ 1048576) :
    ∃ (n' : Bool) (l' : List Int) (s' : Nat), dec_canon.f n l (s : Int) = some (n', l', (s' : Int)) ∧ Can n' l' s' ∧ vl S n' l' s' = vl S n l s ∧ s' ≤ s ∧ l'.length ≤ l.length + 1 := by
  obtain ⟨c1, c2, c3, c4, c5, c6, c7⟩ := canonL_spec S l s hd hs hS h0
  refine ⟨_, _, _, by unfold dec_canon.f; rw [if_pos ⟨h0, hl, by omega, by omega⟩], ?_⟩
  rw [Int.toNat_natCast]
  generalize (canonL l s).1 = l' at *
  generalize (canonL l s).2 = s' at *
  refine ⟨⟨c1, c3, c4, c5, fun h => ?_⟩, ?_, c6, c7⟩
  · rw [Bool.and_eq_true] at h
    exact not_all h.2
  · unfold vl
    rw [c2]
    cases n with
    | false => simp
    | true =>
      simp only [Bool.true_and, if_true]
      cases hz : l'.all (· == 0) with
      | false => simp
      | true =>
        have : mag S l s = 0 := by
          rw [← c2]
          unfold mag
          rw [rv_of_zero (fun x hx => all_zero hz x (by simpa using hx)), Int.mul_zero]
        simp [this]

end Go.Proofs.YtdjgiphipjejlaaGreatDoor.B
