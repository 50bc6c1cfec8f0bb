import Derived.Test.YtfpedicgeepikaaB15
namespace Go.Proofs.Ytfpedicgeepikaa.B
open Go.RowKit Go.Proofs.Ytfpedicgeepikaa Go.Proofs.Ytfpedicgeepikaa.G Go.Proofs.Ytfpedicgeepikaa.Pr Go.Proofs.YtfpedicgeepikaaW.PrintWords Go.Proofs.YtfpedicgeepikaaW.PrintLast
set_option linter.unusedVariables false
set_option linter.unusedSimpArgs false
/-! ### the text of WildSpaces, its words, what they allow -/
def vW : ByteArray := ⟨#[118]⟩
def letW (n : Nat) : List UInt8 := [117, UInt8.ofNat (97 + n % 26)]
def txtL (l : List (List UInt8)) : List UInt8 := l.flatMap (fun w => 32 :: w)
theorem wrd_run : ∀ (w acc rest : List UInt8), (∀ b, b ∈ w → whiteB b = false) → wrd acc (w ++ rest) = wrd (acc ++ w) rest
  | [], acc, rest, _ => by simp
  | b :: w, acc, rest, h => by
    rw [List.cons_append, wrd, if_neg (by rw [h b List.mem_cons_self]; decide), wrd_run w _ rest (fun c hc => h c (List.mem_cons_of_mem _ hc))]
    simp
theorem wrd_txt : ∀ (ws : List (List UInt8)) (acc : List UInt8), (∀ w, w ∈ ws → w ≠ [] ∧ ∀ b, b ∈ w → whiteB b = false) → wrd acc (txtL ws) = (if acc = [] then [] else [acc]) ++ ws
  | [], acc, _ => by simp [txtL, wrd]
  | w :: ws, acc, h => by
    have hw := h w List.mem_cons_self
    have e : txtL (w :: ws) = 32 :: (w ++ txtL ws) := by simp [txtL]
    have ih := wrd_txt ws w (fun x hx => h x (List.mem_cons_of_mem _ hx))
    rw [if_neg hw.1] at ih
    rw [e, wrd, if_pos (by decide), wrd_run w [] _ hw.2, List.nil_append, ih]
    split <;> simp
theorem letW_good (n : Nat) : letW n ≠ [] ∧ ∀ b, b ∈ letW n → whiteB b = false := by
  refine ⟨by simp [letW], fun b hb => ?_⟩
  have key : ∀ m, m < 26 → whiteB (UInt8.ofNat (97 + m)) = false := by decide
  simp only [letW, List.mem_cons, List.not_mem_nil, or_false] at hb
  rcases hb with rfl | rfl
  · decide
  · exact key _ (Nat.mod_lt _ (by decide))
theorem letW_inj {m n : Nat} (h : letW m = letW n) : m % 26 = n % 26 := by
  have key : ∀ i, i < 26 → ∀ j, j < 26 → UInt8.ofNat (97 + i) = UInt8.ofNat (97 + j) → i = j := by decide
  refine key _ (Nat.mod_lt _ (by decide)) _ (Nat.mod_lt _ (by decide)) ?_
  exact (List.cons.inj (List.cons.inj h).2).1
theorem letW_mod (n : Nat) : letW (n % 26) = letW n := by simp [letW]
/-- The words of the text. -/
def wsL (l : List Nat) (a1 a2 : Bool) : List (List UInt8) := l.map letW ++ (if a1 = true then [lst locW] else []) ++ (if a2 = true then [lst tgtW] else [])
/-- The spaces that they name. -/
def spL (l : List Nat) (a1 a2 : Bool) : List ByteArray := l.map (fun n => mkB (letW n)) ++ (if a1 = true then [⟨#[]⟩] else []) ++ (if a2 = true then [tW] else [])
theorem wsL_good (l : List Nat) (a1 a2 : Bool) : ∀ w, w ∈ wsL l a1 a2 → w ≠ [] ∧ ∀ b, b ∈ w → whiteB b = false := by
  intro w hw
  unfold wsL at hw
  rw [List.mem_append, List.mem_append] at hw
  rcases hw with (hw | hw) | hw
  · obtain ⟨n, _, rfl⟩ := List.mem_map.1 hw
    exact letW_good n
  · split at hw
    · rw [List.mem_singleton.1 hw]
      exact ⟨by decide, by decide⟩
    · cases hw
  · split at hw
    · rw [List.mem_singleton.1 hw]
      exact ⟨by decide, by decide⟩
    · cases hw
theorem letW_head (n : Nat) : (lst (mkB (letW n))).head? ≠ some 35 := by
  rw [lst_mk]
  simp [letW]
theorem mkB_letW_ne (n : Nat) (x : ByteArray) (h : (lst x).head? ≠ some 117) : mkB (letW n) ≠ x := by
  rintro rfl
  apply h
  rw [lst_mk]
  rfl
theorem letW_ne_len (n : Nat) (x : ByteArray) (h : (lst x).length ≠ 2) : mkB (letW n) ≠ x := by
  rintro rfl
  apply h
  rw [lst_mk]
  rfl
theorem map_wsL (l : List Nat) (a1 a2 : Bool) : ((wsL l a1 a2).map mkB).map (mapW tW) = spL l a1 a2 := by
  have e1 : ∀ n, mapW tW (mkB (letW n)) = mkB (letW n) := fun n => by
    unfold mapW
    rw [if_neg (letW_ne_len n _ (by decide)), if_neg (letW_ne_len n _ (by decide))]
  have e2 : mapW tW (mkB (lst locW)) = ⟨#[]⟩ := by
    rw [mk_lst]
    unfold mapW
    rw [if_neg (ba_ne (by decide)), if_pos rfl]
  have e3 : mapW tW (mkB (lst tgtW)) = tW := by
    rw [mk_lst]
    unfold mapW
    rw [if_pos rfl]
  unfold wsL spL
  have f1 : ((l.map letW).map mkB).map (mapW tW) = l.map (fun n => mkB (letW n)) := by
    rw [List.map_map, List.map_map]
    exact List.map_congr_left (fun n _ => e1 n)
  simp only [List.map_append]
  rw [f1]
  cases a1 <;> cases a2 <;> simp [e2, e3]
theorem good_wsL (l : List Nat) (a1 a2 : Bool) : ∀ w, w ∈ (wsL l a1 a2).map mkB → GoodW w := by
  intro w hw
  obtain ⟨x, hx, rfl⟩ := List.mem_map.1 hw
  unfold wsL at hx
  rw [List.mem_append, List.mem_append] at hx
  rcases hx with (hx | hx) | hx
  · obtain ⟨n, _, rfl⟩ := List.mem_map.1 hx
    exact .inr (.inr (letW_head n))
  · split at hx
    · rw [List.mem_singleton.1 hx, mk_lst]
      exact .inr (.inl rfl)
    · cases hx
  · split at hx
    · rw [List.mem_singleton.1 hx, mk_lst]
      exact .inl rfl
    · cases hx
theorem one_wsL (l : List Nat) (a1 a2 : Bool) : ∀ w, (wsL l a1 a2).map mkB = [w] → w ≠ mkB [35, 35, 97, 110, 121] ∧ w ≠ mkB [35, 35, 111, 116, 104, 101, 114] := by
  intro w e
  have hw : w ∈ (wsL l a1 a2).map mkB := by rw [e]; exact List.mem_singleton.2 rfl
  rcases good_wsL l a1 a2 w hw with rfl | rfl | h
  · exact ⟨ba_ne (by decide), ba_ne (by decide)⟩
  · exact ⟨ba_ne (by decide), ba_ne (by decide)⟩
  · exact ⟨fun e => h (by rw [e]; rfl), fun e => h (by rw [e]; rfl)⟩
theorem mem_spL (l : List Nat) (a1 a2 : Bool) (s : ByteArray) : s ∈ spL l a1 a2 ↔ (∃ n, n ∈ l ∧ s = mkB (letW n)) ∨ (a1 = true ∧ s = ⟨#[]⟩) ∨ (a2 = true ∧ s = tW) := by
  unfold spL
  rw [List.mem_append, List.mem_append, List.mem_map]
  constructor
  · rintro ((⟨n, hn, rfl⟩ | h) | h)
    · exact .inl ⟨n, hn, rfl⟩
    · split at h
      · exact .inr (.inl ⟨‹_›, List.mem_singleton.1 h⟩)
      · cases h
    · split at h
      · exact .inr (.inr ⟨‹_›, List.mem_singleton.1 h⟩)
      · cases h
  · rintro (⟨n, hn, rfl⟩ | ⟨h, rfl⟩ | ⟨h, rfl⟩)
    · exact .inl (.inl ⟨n, hn, rfl⟩)
    · exact .inl (.inr (by rw [if_pos h]; exact List.mem_singleton.2 rfl))
    · exact .inr (by rw [if_pos h]; exact List.mem_singleton.2 rfl)
theorem empty_ne_t : (⟨#[]⟩ : ByteArray) ≠ tW := ba_ne (by decide)
theorem spL_empty (l : List Nat) (a1 a2 : Bool) : (⟨#[]⟩ : ByteArray) ∈ spL l a1 a2 ↔ a1 = true := by
  rw [mem_spL]
  constructor
  · rintro (⟨n, _, e⟩ | ⟨h, _⟩ | ⟨_, e⟩)
    · exact absurd e.symm (letW_ne_len n _ (by decide))
    · exact h
    · exact absurd e empty_ne_t
  · exact fun h => .inr (.inl ⟨h, rfl⟩)
theorem spL_t (l : List Nat) (a1 a2 : Bool) : tW ∈ spL l a1 a2 ↔ a2 = true := by
  rw [mem_spL]
  constructor
  · rintro (⟨n, _, e⟩ | ⟨_, e⟩ | ⟨h, _⟩)
    · exact absurd e.symm (letW_ne_len n _ (by decide))
    · exact absurd e.symm empty_ne_t
    · exact h
  · exact fun h => .inr (.inr ⟨h, rfl⟩)
theorem spL_v (l : List Nat) (a1 a2 : Bool) : vW ∉ spL l a1 a2 := by
  rw [mem_spL]
  rintro (⟨n, _, e⟩ | ⟨_, e⟩ | ⟨h, e⟩)
  · exact absurd e.symm (letW_ne_len n _ (by decide))
  · exact ba_ne (by decide) e
  · exact ba_ne (by decide) e
theorem spL_let (l : List Nat) (a1 a2 : Bool) (m : Nat) : mkB (letW m) ∈ spL l a1 a2 ↔ ∃ n, n ∈ l ∧ n % 26 = m % 26 := by
  rw [mem_spL]
  constructor
  · rintro (⟨n, hn, e⟩ | ⟨_, e⟩ | ⟨h, e⟩)
    · exact ⟨n, hn, (letW_inj (mkB_inj e)).symm⟩
    · exact absurd e (letW_ne_len m _ (by decide))
    · exact absurd e (letW_ne_len m _ (by decide))
  · rintro ⟨n, hn, e⟩
    refine .inl ⟨n, hn, ?_⟩
    rw [← letW_mod m, ← letW_mod n, e]
/-- What the text's spaces and '##other' together allow. -/
def unR (a1 a2 : Bool) : Int × ByteArray × List ByteArray × Int × Bool :=
  match a1, a2 with
  | true, true => (1, ⟨#[]⟩, [], 1, true)
  | false, false => (2, tW, [], 1, true)
  | false, true => (2, ⟨#[]⟩, [], 1, true)
  | true, false => (0, ⟨#[]⟩, [], 0, false)
theorem un_spaces (l : List Nat) (a1 a2 : Bool) : unionP 3 ⟨#[]⟩ (setL (spL l a1 a2)) 1 2 tW [] = unR a1 a2 := by
  have hmem : ∀ s, s ∈ ((specL ⟨#[]⟩ (setL (spL l a1 a2)) tW []).filter fun s => !(decide (allowsP 3 ⟨#[]⟩ (setL (spL l a1 a2)) s) || decide (allowsP 2 tW [] s))) ↔ (s = ⟨#[]⟩ ∧ a1 = false) ∨ (s = tW ∧ a2 = false) := by
    intro s
    rw [List.mem_filter, mem_specL, Bool.not_eq_true', Bool.or_eq_false_iff, decide_eq_false_iff_not, decide_eq_false_iff_not]
    have e3 : allowsP 3 ⟨#[]⟩ (setL (spL l a1 a2)) s ↔ s ∈ spL l a1 a2 := by
      unfold allowsP
      rw [if_neg (by decide), if_neg (by decide), if_pos rfl, mem_setL]
    have e2 : allowsP 2 tW [] s ↔ s ≠ ⟨#[]⟩ ∧ s ≠ tW := by
      unfold allowsP
      rw [if_neg (by decide), if_pos rfl]
    rw [e3, e2]
    constructor
    · rintro ⟨_, h1, h2⟩
      by_cases h3 : s = ⟨#[]⟩
      · subst h3
        rw [spL_empty] at h1
        exact .inl ⟨rfl, by simpa using h1⟩
      · by_cases h4 : s = tW
        · subst h4
          rw [spL_t] at h1
          exact .inr ⟨rfl, by simpa using h1⟩
        · exact absurd ⟨h3, h4⟩ h2
    · rintro (⟨rfl, h⟩ | ⟨rfl, h⟩)
      · exact ⟨.inl rfl, by rw [spL_empty, h]; decide, fun hh => hh.1 rfl⟩
      · exact ⟨by simp, by rw [spL_t, h]; decide, fun hh => hh.2 rfl⟩
  have hr : Rising ((specL ⟨#[]⟩ (setL (spL l a1 a2)) tW []).filter fun s => !(decide (allowsP 3 ⟨#[]⟩ (setL (spL l a1 a2)) s) || decide (allowsP 2 tW [] s))) := rising_filter (rising_setL _) _
  unfold unionP
  generalize ((specL ⟨#[]⟩ (setL (spL l a1 a2)) tW []).filter fun s => !(decide (allowsP 3 ⟨#[]⟩ (setL (spL l a1 a2)) s) || decide (allowsP 2 tW [] s))) = outs at hmem hr
  have r1 : Rising [(⟨#[]⟩ : ByteArray)] := by unfold Rising; simp
  have r2 : Rising [tW] := by unfold Rising; simp
  have r3 : Rising [(⟨#[]⟩ : ByteArray), tW] := by unfold Rising; decide
  have r0 : Rising ([] : List ByteArray) := by unfold Rising; simp
  unfold sayP
  rw [if_pos (by decide)]
  cases a1 <;> cases a2
  · obtain rfl := rising_ext hr r3 (fun s => by rw [hmem]; simp)
    simp only [if_true]
    rfl
  · obtain rfl := rising_ext hr r1 (fun s => by rw [hmem]; simp)
    simp only [if_true]
    rfl
  · obtain rfl := rising_ext hr r2 (fun s => by rw [hmem]; simp)
    simp only [if_neg empty_ne_t.symm]
    rfl
  · obtain rfl := rising_ext hr r0 (fun s => by rw [hmem]; simp)
    rfl

end Go.Proofs.Ytfpedicgeepikaa.B
