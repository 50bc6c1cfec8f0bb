import Derived.Test.YtjhmpippcndloaaG4
namespace Go.Proofs.Ytjhmpippcndloaa.B
open Go.RowKit Go.Proofs.Ytjhmpippcndloaa Go.Proofs.Ytjhmpippcndloaa.G Go.Proofs.Ytjhmpippcndloaa.Pr Go.Proofs.YtjhmpippcndloaaW.PrintWords Go.Proofs.YtjhmpippcndloaaW.PrintLast
set_option linter.unusedVariables false
set_option linter.unusedSimpArgs false
/-! ### sets of letters: rows of ranges, rising, apart -/
def topL : Int := 1114111
def hasP (l : List S24) (r : Int) : Prop := ∃ x, x ∈ l ∧ x.f0 ≤ r ∧ r ≤ x.f1
instance (l : List S24) (r : Int) : Decidable (hasP l r) := decidable_of_iff (l.any (inR r) = true) (by
  rw [List.any_eq_true]
  unfold hasP inR
  simp only [Bool.and_eq_true, decide_eq_true_iff])
theorem any_has (l : List S24) (r : Int) : l.any (inR r) = decide (hasP l r) := by
  rw [Bool.eq_iff_iff, decide_eq_true_iff, List.any_eq_true]
  unfold hasP inR
  simp only [Bool.and_eq_true, decide_eq_true_iff]
theorem has_nil (r : Int) : ¬ hasP [] r := fun ⟨_, h, _⟩ => by cases h
theorem has_cons (x : S24) (l : List S24) (r : Int) : hasP (x :: l) r ↔ (x.f0 ≤ r ∧ r ≤ x.f1) ∨ hasP l r := by
  unfold hasP
  constructor
  · rintro ⟨y, hy, h⟩
    rcases List.mem_cons.1 hy with rfl | hy
    · exact .inl h
    · exact .inr ⟨y, hy, h⟩
  · rintro (h | ⟨y, hy, h⟩)
    · exact ⟨x, List.mem_cons_self, h⟩
    · exact ⟨y, List.mem_cons_of_mem _ hy, h⟩
theorem has_append (a b : List S24) (r : Int) : hasP (a ++ b) r ↔ hasP a r ∨ hasP b r := by
  unfold hasP
  constructor
  · rintro ⟨y, hy, h⟩
    rcases List.mem_append.1 hy with hy | hy
    · exact .inl ⟨y, hy, h⟩
    · exact .inr ⟨y, hy, h⟩
  · rintro (⟨y, hy, h⟩ | ⟨y, hy, h⟩)
    · exact ⟨y, List.mem_append_left _ hy, h⟩
    · exact ⟨y, List.mem_append_right _ hy, h⟩
theorem has_one (x : S24) (r : Int) : hasP [x] r ↔ x.f0 ≤ r ∧ r ≤ x.f1 := by
  rw [has_cons]
  exact ⟨fun h => h.elim id (fun h => absurd h (has_nil r)), .inl⟩
theorem has_perm {a b : List S24} (h : a.Perm b) (r : Int) : hasP a r ↔ hasP b r := by
  unfold hasP
  exact ⟨fun ⟨x, hx, hh⟩ => ⟨x, h.mem_iff.1 hx, hh⟩, fun ⟨x, hx, hh⟩ => ⟨x, h.mem_iff.2 hx, hh⟩⟩
/-- A set. -/
structure Canon (l : List S24) : Prop where
  each : ∀ x, x ∈ l → 0 ≤ x.f0 ∧ x.f0 ≤ x.f1 ∧ x.f1 ≤ topL
  apart : l.Pairwise (fun x y => x.f1 + 1 < y.f0)
theorem Canon.nil : Canon [] := ⟨(fun _ h => by cases h), List.Pairwise.nil⟩
theorem Canon.tail {x : S24} {l : List S24} (h : Canon (x :: l)) : Canon l := ⟨fun y hy => h.each y (List.mem_cons_of_mem _ hy), (List.pairwise_cons.1 h.apart).2⟩
theorem Canon.head {x : S24} {l : List S24} (h : Canon (x :: l)) : ∀ r, hasP l r → x.f1 + 1 < r := fun r ⟨y, hy, h1, _⟩ => by
  have := (List.pairwise_cons.1 h.apart).1 y hy
  omega
theorem Canon.bound {l : List S24} (h : Canon l) {r : Int} (hr : hasP l r) : 0 ≤ r ∧ r ≤ topL := by
  obtain ⟨x, hx, h1, h2⟩ := hr
  have := h.each x hx
  omega
theorem S24_ext {x y : S24} (h0 : x.f0 = y.f0) (h1 : x.f1 = y.f1) : x = y := by cases x; cases y; cases h0; cases h1; rfl
theorem canon_ext : ∀ (a b : List S24), Canon a → Canon b → (∀ r, hasP a r ↔ hasP b r) → a = b
  | [], [], _, _, _ => rfl
  | [], y :: ys, _, hb, h => absurd ((h y.f0).2 ((has_cons _ _ _).2 (.inl ⟨Int.le_refl _, (hb.each y List.mem_cons_self).2.1⟩))) (has_nil _)
  | x :: xs, [], ha, _, h => absurd ((h x.f0).1 ((has_cons _ _ _).2 (.inl ⟨Int.le_refl _, (ha.each x List.mem_cons_self).2.1⟩))) (has_nil _)
  | x :: xs, y :: ys, ha, hb, h => by
    have ex := ha.each x List.mem_cons_self
    have ey := hb.each y List.mem_cons_self
    -- the heads begin alike
    have l1 : y.f0 ≤ x.f0 := by
      rcases (has_cons _ _ _).1 ((h x.f0).1 ((has_cons _ _ _).2 (.inl ⟨Int.le_refl _, ex.2.1⟩))) with h1 | h1
      · exact h1.1
      · have := hb.head _ h1; omega
    have l2 : x.f0 ≤ y.f0 := by
      rcases (has_cons _ _ _).1 ((h y.f0).2 ((has_cons _ _ _).2 (.inl ⟨Int.le_refl _, ey.2.1⟩))) with h1 | h1
      · exact h1.1
      · have := ha.head _ h1; omega
    have e0 : x.f0 = y.f0 := by omega
    -- and end alike
    have l3 : x.f1 ≤ y.f1 := by
      refine Int.not_lt.1 (fun hlt => ?_)
      rcases (has_cons _ _ _).1 ((h (y.f1 + 1)).1 ((has_cons _ _ _).2 (.inl ⟨by omega, by omega⟩))) with h1 | h1
      · omega
      · have := hb.head _ h1; omega
    have l4 : y.f1 ≤ x.f1 := by
      refine Int.not_lt.1 (fun hlt => ?_)
      rcases (has_cons _ _ _).1 ((h (x.f1 + 1)).2 ((has_cons _ _ _).2 (.inl ⟨by omega, by omega⟩))) with h1 | h1
      · omega
      · have := ha.head _ h1; omega
    obtain rfl := S24_ext e0 (Int.le_antisymm l3 l4)
    rw [canon_ext xs ys ha.tail hb.tail (fun r => ⟨fun hr => by
      rcases (has_cons _ _ _).1 ((h r).1 ((has_cons _ _ _).2 (.inr hr))) with h1 | h1
      · have := ha.head r hr; omega
      · exact h1, fun hr => by
      rcases (has_cons _ _ _).1 ((h r).2 ((has_cons _ _ _).2 (.inr hr))) with h1 | h1
      · have := hb.head r hr; omega
      · exact h1⟩)]
/-! ### ranges put together -/
def clampS (x : S24) : S24 := ⟨mx x.f0 0, mn x.f1 1114111⟩
theorem mx_eq (a b : Int) : mx a b = if a < b then b else a := rfl
theorem clamp_has (x : S24) (r : Int) : ((clampS x).f0 ≤ r ∧ r ≤ (clampS x).f1) ↔ (x.f0 ≤ r ∧ r ≤ x.f1) ∧ 0 ≤ r ∧ r ≤ topL := by
  unfold clampS mx mn topL
  simp only
  constructor
  · rintro ⟨h1, h2⟩
    omega
  · rintro ⟨⟨h1, h2⟩, h3, h4⟩
    omega
def clampL (l : List S24) : List S24 := (l.map clampS).filter (fun x => decide (x.f0 ≤ x.f1))
theorem clampL_has (l : List S24) (r : Int) : hasP (clampL l) r ↔ hasP l r ∧ 0 ≤ r ∧ r ≤ topL := by
  unfold hasP clampL
  constructor
  · rintro ⟨y, hy, h⟩
    obtain ⟨hy, _⟩ := List.mem_filter.1 hy
    obtain ⟨x, hx, rfl⟩ := List.mem_map.1 hy
    obtain ⟨h1, h2⟩ := (clamp_has x r).1 h
    exact ⟨⟨x, hx, h1⟩, h2⟩
  · rintro ⟨⟨x, hx, h1⟩, h2⟩
    have h := (clamp_has x r).2 ⟨h1, h2⟩
    exact ⟨clampS x, List.mem_filter.2 ⟨List.mem_map.2 ⟨x, hx, rfl⟩, by simp only [decide_eq_true_iff]; omega⟩, h⟩
theorem clampL_each (l : List S24) : ∀ x, x ∈ clampL l → 0 ≤ x.f0 ∧ x.f0 ≤ x.f1 ∧ x.f1 ≤ topL := by
  intro y hy
  unfold clampL at hy
  obtain ⟨hy, h2⟩ := List.mem_filter.1 hy
  obtain ⟨x, hx, rfl⟩ := List.mem_map.1 hy
  simp only [decide_eq_true_iff] at h2
  refine ⟨?_, h2, ?_⟩
  · unfold clampS mx; simp only; omega
  · unfold clampS mn topL; simp only; omega
theorem clampL_length (l : List S24) : (clampL l).length ≤ l.length := by
  unfold clampL
  exact Nat.le_trans (List.length_filter_le _ _) (by simp)
/-- One more range, behind those that begin ahead of it. -/
def mrg (out : List S24) (x : S24) : List S24 :=
  match out.getLast? with
  | none => [x]
  | some y => if x.f0 ≤ y.f1 + 1 then out.dropLast ++ [⟨y.f0, mx y.f1 x.f1⟩] else out ++ [x]
/-- What holds of the ranges that are put together, and of all that still come. -/
structure Mrg (out : List S24) (done : List S24) : Prop where
  canon : Canon out
  has : ∀ r, hasP out r ↔ hasP done r
  begins : ∀ y, y ∈ out → ∃ x, x ∈ done ∧ x.f0 = y.f0
theorem Mrg.step {out done : List S24} {x : S24} (h : Mrg out done) (hx : 0 ≤ x.f0 ∧ x.f0 ≤ x.f1 ∧ x.f1 ≤ topL) (hs : ∀ y, y ∈ done → y.f0 ≤ x.f0) : Mrg (mrg out x) (done ++ [x]) := by
  unfold mrg
  cases hl : out.getLast? with
  | none =>
    have e : out = [] := List.getLast?_eq_none_iff.1 hl
    subst e
    simp only
    refine ⟨⟨fun y hy => by rw [List.mem_singleton.1 hy]; exact hx, List.pairwise_singleton _ _⟩, fun r => ?_, fun y hy => ⟨x, by simp, by rw [List.mem_singleton.1 hy]⟩⟩
    rw [has_append, ← h.has r]
    exact ⟨.inr, fun hh => hh.elim (fun h0 => absurd h0 (has_nil r)) id⟩
  | some y =>
    obtain ⟨i, rfl⟩ : ∃ i, out = i ++ [y] := by
      obtain ⟨i, hi⟩ := List.getLast?_eq_some_iff.1 hl
      exact ⟨i, hi⟩
    have hy := h.canon.each y (by simp)
    have hyx : y.f0 ≤ x.f0 := by
      obtain ⟨z, hz, e⟩ := h.begins y (by simp)
      have := hs z hz
      omega
    have hap := List.pairwise_append.1 h.canon.apart
    by_cases hc : x.f0 ≤ y.f1 + 1
    · simp only [if_pos hc, List.dropLast_concat]
      have hm1 : y.f1 ≤ mx y.f1 x.f1 := by unfold mx; omega
      have hm2 : x.f1 ≤ mx y.f1 x.f1 := by unfold mx; omega
      have hm3 : mx y.f1 x.f1 = y.f1 ∨ mx y.f1 x.f1 = x.f1 := by unfold mx; omega
      refine ⟨⟨fun z hz => ?_, List.pairwise_append.2 ⟨hap.1, List.pairwise_singleton _ _, fun a ha b hb => ?_⟩⟩, fun r => ?_, fun z hz => ?_⟩
      · rcases List.mem_append.1 hz with hz | hz
        · exact h.canon.each z (List.mem_append_left _ hz)
        · rw [List.mem_singleton.1 hz]
          simp only
          omega
      · rw [List.mem_singleton.1 hb]
        exact hap.2.2 a ha y (by simp)
      · rw [has_append, has_append, ← h.has r, has_append, has_one, has_one, has_one]
        simp only
        constructor
        · rintro (h1 | ⟨h1, h2⟩)
          · exact .inl (.inl h1)
          · by_cases hr : r ≤ y.f1
            · exact .inl (.inr ⟨h1, hr⟩)
            · exact .inr ⟨by omega, by omega⟩
        · rintro ((h1 | ⟨h1, h2⟩) | ⟨h1, h2⟩)
          · exact .inl h1
          · exact .inr ⟨h1, by omega⟩
          · exact .inr ⟨by omega, by omega⟩
      · rcases List.mem_append.1 hz with hz | hz
        · obtain ⟨q, hq, e⟩ := h.begins z (List.mem_append_left _ hz)
          exact ⟨q, List.mem_append_left _ hq, e⟩
        · obtain ⟨q, hq, e⟩ := h.begins y (by simp)
          rw [List.mem_singleton.1 hz]
          exact ⟨q, List.mem_append_left _ hq, e⟩
    · simp only [if_neg hc]
      refine ⟨⟨fun z hz => ?_, List.pairwise_append.2 ⟨h.canon.apart, List.pairwise_singleton _ _, fun a ha b hb => ?_⟩⟩, fun r => ?_, fun z hz => ?_⟩
      · rcases List.mem_append.1 hz with hz | hz
        · exact h.canon.each z hz
        · rw [List.mem_singleton.1 hz]; exact hx
      · rw [List.mem_singleton.1 hb]
        rcases List.mem_append.1 ha with ha | ha
        · have := hap.2.2 a ha y (by simp)
          omega
        · rw [List.mem_singleton.1 ha]
          omega
      · rw [has_append (i ++ [y]), has_append done, h.has r]
      · rcases List.mem_append.1 hz with hz | hz
        · obtain ⟨q, hq, e⟩ := h.begins z hz
          exact ⟨q, List.mem_append_left _ hq, e⟩
        · exact ⟨x, by simp, by rw [List.mem_singleton.1 hz]⟩
def mrgAll : List S24 → List S24 → List S24
  | out, [] => out
  | out, x :: l => mrgAll (mrg out x) l
theorem mrgAll_all : ∀ (l out done : List S24), Mrg out done → (done ++ l).Pairwise (fun x y => x.f0 ≤ y.f0) → (∀ x, x ∈ l → 0 ≤ x.f0 ∧ x.f0 ≤ x.f1 ∧ x.f1 ≤ topL) → Mrg (mrgAll out l) (done ++ l)
  | [], out, done, h, _, _ => by rw [List.append_nil]; exact h
  | x :: l, out, done, h, hs, he => by
    have h1 : Mrg (mrg out x) (done ++ [x]) := h.step (he x List.mem_cons_self) (fun y hy => (List.pairwise_append.1 hs).2.2 y hy x List.mem_cons_self)
    have := mrgAll_all l (mrg out x) (done ++ [x]) h1 (by rw [List.append_assoc]; exact hs) (fun y hy => he y (List.mem_cons_of_mem _ hy))
    rw [List.append_assoc] at this
    exact this
/-- The set of some ranges. -/
def ofL (l : List S24) : List S24 := mrgAll [] (sortR (clampL l))
theorem ofL_mrg (l : List S24) : Mrg (ofL l) (sortR (clampL l)) :=
  mrgAll_all (sortR (clampL l)) [] [] ⟨Canon.nil, fun r => Iff.rfl, fun _ h => by cases h⟩ (sortR_sorted _) (fun x hx => clampL_each l x ((sortR_perm _).mem_iff.1 hx))
theorem ofL_canon (l : List S24) : Canon (ofL l) := (ofL_mrg l).canon
theorem ofL_has (l : List S24) (r : Int) : hasP (ofL l) r ↔ hasP l r ∧ 0 ≤ r ∧ r ≤ topL := by
  rw [(ofL_mrg l).has r, has_perm (sortR_perm _), clampL_has]
theorem mrg_length (out : List S24) (x : S24) : (mrg out x).length ≤ out.length + 1 := by
  unfold mrg
  cases hl : out.getLast? with
  | none => simp
  | some y =>
    obtain ⟨i, rfl⟩ := List.getLast?_eq_some_iff.1 hl
    simp only
    split <;> simp
theorem mrgAll_length : ∀ (l out : List S24), (mrgAll out l).length ≤ out.length + l.length
  | [], out => by simp [mrgAll]
  | x :: l, out => by
    have h1 := mrgAll_length l (mrg out x)
    have h2 := mrg_length out x
    simp only [mrgAll, List.length_cons]
    omega
theorem ofL_length (l : List S24) : (ofL l).length ≤ l.length := by
  have h1 := mrgAll_length (sortR (clampL l)) []
  have h2 := clampL_length l
  rw [sortR_length] at h1
  simp only [List.length_nil] at h1
  unfold ofL
  omega
theorem ofL_of_canon {s : List S24} (h : Canon s) : ofL s = s := canon_ext _ _ (ofL_canon s) h (fun r => by
  rw [ofL_has]
  exact ⟨fun hh => hh.1, fun hh => ⟨hh, h.bound hh⟩⟩)

end Go.Proofs.Ytjhmpippcndloaa.B
