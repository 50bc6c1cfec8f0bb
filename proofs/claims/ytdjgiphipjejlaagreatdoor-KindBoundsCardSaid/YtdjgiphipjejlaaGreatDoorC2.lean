import Derived.Test.YtdjgiphipjejlaaGreatDoorC1
namespace Go.Proofs.YtdjgiphipjejlaaGreatDoor.B
open Go.RowKit Go.Proofs.YtdjgiphipjejlaaGreatDoor Go.Proofs.YtdjgiphipjejlaaGreatDoor.G Go.Proofs.YtdjgiphipjejlaaGreatDoor.Pr Go.Proofs.YtdjgiphipjejlaaGreatDoorW.PrintWords Go.Proofs.YtdjgiphipjejlaaGreatDoorW.PrintLast
set_option linter.unusedVariables false
set_option linter.unusedSimpArgs false
theorem Can.bd {n : Bool} {l : List Int} {s : Nat} (h : Can n l s) (hl : l.length ≤ 1048576) : Bd l s := ⟨h.dg, hl, Nat.le_of_lt h.lt⟩
theorem Can.neg_iff {n : Bool} {l : List Int} {s S : Nat} (h : Can n l s) : (n = true → vl S n l s < 0) ∧ (n = false → 0 ≤ vl S n l s) := by
  constructor
  · intro hn
    have := mag_pos (S := S) (s := s) h.dg (h.sign hn)
    unfold vl
    rw [if_pos hn]
    omega
  · intro hn
    have := mag_nonneg (S := S) (s := s) h.dg
    unfold vl
    rw [hn]
    simpa using this
theorem cmp_ev {n n' : Bool} {l m : List Int} {s t : Nat} (S : Nat) (h : Can n l s) (h' : Can n' m t) (hS1 : s ≤ S) (hS2 : t ≤ S) (hl : l.length ≤ 1048576) (hm : m.length ≤ 1048576) :
    Ev (fun k => dec_Cmp.f k n l s n' m t) (sg (vl S n l s - vl S n' m t)) := by
  have bd := h.bd hl
  have bd' := h'.bd hm
  have s1 := size_ev n n' (S := S) bd bd' hS1 hS2 (by have := h.lt; omega) (by have := h'.lt; omega) h.lt
  have s2 := size_ev n' n (S := S) bd' bd hS2 hS1 (by have := h'.lt; omega) (by have := h.lt; omega) h'.lt
  have q1 := h.neg_iff (S := S)
  have q2 := h'.neg_iff (S := S)
  cases n with
  | true =>
    have a1 := q1.1 rfl
    cases n' with
    | true =>
      refine Ev.congr (f := fun k => dec_Cmp.j0 k false true l s true m t) (fun k => rfl) (Ev.step (f := fun k => dec_Cmp.j1 k false true l s true m t) (fun k => by simp [dec_Cmp.j0]) (Ev.step (f := fun k => (dec_size.f k true m t true l s).bind fun t126 => some t126) (fun k => by simp [dec_Cmp.j1]) ?_))
      have : vl S true l s - vl S true m t = mag S m t - mag S l s := by simp [vl]; omega
      rw [this]
      exact Ev.bind s2 (Ev.now _)
    | false =>
      have b1 := q2.2 rfl
      rw [sg_neg (by omega)]
      exact Ev.congr (f := fun k => dec_Cmp.j0 k true true l s false m t) (fun k => rfl) (Ev.step (f := fun k => some (-1)) (fun k => by simp [dec_Cmp.j0]) (Ev.now _))
  | false =>
    have a1 := q1.2 rfl
    cases n' with
    | true =>
      have b1 := q2.1 rfl
      rw [sg_pos (by omega)]
      exact Ev.congr (f := fun k => dec_Cmp.j0 k false false l s true m t) (fun k => rfl) (Ev.step (f := fun k => dec_Cmp.j1 k true false l s true m t) (fun k => by simp [dec_Cmp.j0]) (Ev.step (f := fun k => some 1) (fun k => by simp [dec_Cmp.j1]) (Ev.now _)))
    | false =>
      refine Ev.congr (f := fun k => dec_Cmp.j0 k false false l s false m t) (fun k => rfl) (Ev.step (f := fun k => dec_Cmp.j1 k false false l s false m t) (fun k => by simp [dec_Cmp.j0]) (Ev.step (f := fun k => (dec_size.f k false l s false m t).bind fun t127 => some t127) (fun k => by simp [dec_Cmp.j1]) ?_))
      have : vl S false l s - vl S false m t = mag S l s - mag S m t := by simp [vl]
      rw [this]
      exact Ev.bind s1 (Ev.now _)

end Go.Proofs.YtdjgiphipjejlaaGreatDoor.B
