import Derived.Test.YtfpedicgeepikaaG4
import Derived.Test.YtfpedicgeepikaaG8
import Derived.Test.YtfpedicgeepikaaG7
namespace Go.Proofs.Ytfpedicgeepikaa.B
open Go.RowKit Go.Proofs.Ytfpedicgeepikaa Go.Proofs.Ytfpedicgeepikaa.G Go.Proofs.Ytfpedicgeepikaa.Pr Go.Proofs.YtfpedicgeepikaaW.PrintWords Go.Proofs.YtfpedicgeepikaaW.PrintLast
set_option linter.unusedVariables false
set_option linter.unusedSimpArgs false
theorem mem_upTo {α : Type} [Inhabited α] [DecidableEq α] (d : Array α) (x : α) : ∀ m, x ∈ Lib.compactUpTo d m ↔ ∃ j, j < m ∧ d[j]! = x
  | 0 => by simp [Lib.compactUpTo]
  | m + 1 => by
    rw [Lib.compactUpTo_succ, List.mem_append, mem_upTo d x m]
    constructor
    · rintro (⟨j, hj, e⟩ | h)
      · exact ⟨j, by omega, e⟩
      · split at h
        · exact ⟨m, by omega, (List.mem_singleton.1 h).symm⟩
        · cases h
    · rintro ⟨j, hj, e⟩
      by_cases hm : j < m
      · exact .inl ⟨j, hm, e⟩
      · obtain rfl : j = m := by omega
        by_cases hk : Lib.keeps d j = true
        · right
          rw [if_pos hk]
          exact List.mem_singleton.2 e.symm
        · left
          have h0 : 0 < j := by
            rcases Nat.eq_zero_or_pos j with h0 | h0
            · exact absurd (Lib.keeps_lt_one d j (by omega)) hk
            · exact h0
          have h1 : d[j]! = d[j - 1]! := by
            by_cases hne : d[j]! = d[j - 1]!
            · exact hne
            · exact absurd (Lib.keeps_pos hne) hk
          exact ⟨j - 1, by omega, by rw [← h1]; exact e⟩
theorem mem_compact {α : Type} [Inhabited α] [DecidableEq α] (zs : List α) (x : α) : x ∈ Lib.compact zs ↔ x ∈ zs := by
  unfold Lib.compact
  rw [mem_upTo]
  constructor
  · rintro ⟨j, hj, e⟩
    rw [getElem!_pos _ j (by simpa using hj)] at e
    rw [← e]
    simp
  · intro h
    obtain ⟨j, hj, e⟩ := List.getElem_of_mem h
    exact ⟨j, hj, by rw [getElem!_pos _ j (by simpa using hj)]; simpa using e⟩
theorem mkB_inj {a b : List UInt8} (h : mkB a = mkB b) : a = b := by rw [← lst_mk a, h, lst_mk]
theorem mem_mkB (l : List (List UInt8)) (x : ByteArray) : x ∈ l.map mkB ↔ lst x ∈ l := by
  rw [List.mem_map]
  constructor
  · rintro ⟨a, ha, rfl⟩
    rwa [lst_mk]
  · intro h
    exact ⟨_, h, mk_lst x⟩
theorem mem_sortL (l : List ByteArray) (x : ByteArray) : x ∈ sortL l ↔ x ∈ l := by
  unfold sortL
  rw [mem_mkB, List.mem_mergeSort, List.mem_map]
  constructor
  · rintro ⟨a, ha, e⟩
    have := congrArg mkB e
    rw [mk_lst, mk_lst] at this
    rwa [← this]
  · intro h
    exact ⟨x, h, rfl⟩
theorem mem_compL (l : List ByteArray) (x : ByteArray) : x ∈ compL l ↔ x ∈ l := by
  unfold compL
  rw [mem_mkB, mem_compact, List.mem_map]
  constructor
  · rintro ⟨a, ha, e⟩
    have := congrArg mkB e
    rw [mk_lst, mk_lst] at this
    rwa [← this]
  · intro h
    exact ⟨x, h, rfl⟩
/-- The spaces of a row: each once, rising. -/
def setL (l : List ByteArray) : List ByteArray := compL (sortL l)
theorem mem_setL (l : List ByteArray) (x : ByteArray) : x ∈ setL l ↔ x ∈ l := by rw [setL, mem_compL, mem_sortL]
theorem setL_length (l : List ByteArray) : (setL l).length ≤ l.length := by
  have := compL_length (sortL l)
  rw [sortL_length] at this
  exact this

end Go.Proofs.Ytfpedicgeepikaa.B

namespace Go.Proofs.Ytfpedicgeepikaa.B
open Go.RowKit Go.Proofs.Ytfpedicgeepikaa Go.Proofs.Ytfpedicgeepikaa.G Go.Proofs.Ytfpedicgeepikaa.Pr Go.Proofs.YtfpedicgeepikaaW.PrintWords Go.Proofs.YtfpedicgeepikaaW.PrintLast
set_option linter.unusedVariables false
set_option linter.unusedSimpArgs false
theorem w64 {x : Int} (h1 : -9223372036854775808 ≤ x) (h2 : x ≤ 9223372036854775807) : wrap64 x = x := by unfold wrap64; omega
theorem Ev_succ {α : Type} {g : Nat → Option α} {r : α} (h : Ev (fun k => g (k + 1)) r) : Ev g r := Ev.step (fun _ => rfl) h
theorem toList_lst (a : ByteArray) : a.toList = lst a := Lib.toList_data a
theorem lst_inj {a b : ByteArray} (h : lst a = lst b) : a = b := by rw [← mk_lst a, h, mk_lst]
instance : DecidableEq ByteArray := fun a b => decidable_of_iff (lst a = lst b) ⟨lst_inj, fun h => by rw [h]⟩
theorem mem_lst (s : ByteArray) (l : List ByteArray) : lst s ∈ l.map lst ↔ s ∈ l := by
  rw [List.mem_map]
  exact ⟨fun ⟨a, ha, e⟩ => by rwa [← lst_inj e], fun h => ⟨s, h, rfl⟩⟩
instance (s : ByteArray) (l : List ByteArray) : Decidable (s ∈ l) := decidable_of_iff (lst s ∈ l.map lst) (mem_lst s l)
theorem tl_eq {a b : ByteArray} : a.toList = b.toList ↔ a = b := by
  rw [toList_lst, toList_lst]
  exact ⟨lst_inj, fun h => by rw [h]⟩
theorem tl_nil {a : ByteArray} : a.toList = ([] : List UInt8) ↔ a = ⟨#[]⟩ := by
  rw [toList_lst]
  exact ⟨fun h => lst_inj (h.trans rfl), fun h => by rw [h]; rfl⟩
theorem index_ev (l : List ByteArray) (s : ByteArray) (hl : l.length ≤ 8796093022208) : ∀ (d i : Nat), i + d = l.length → ∃ r : Int, Ev (fun k => slices_Index_string_string.l0 k l s (l.length : Int) (i : Int)) r ∧ (r ≥ 0 ↔ s ∈ l.drop i)
  | 0, i, hi => by
    refine ⟨-1, Ev_succ ?_, ?_⟩
    · simp only [slices_Index_string_string.l0, if_neg (show ¬ (i : Int) < (l.length : Int) by omega)]
      exact Ev.now _
    · rw [List.drop_of_length_le (by omega)]
      simp
  | d + 1, i, hi => by
    obtain ⟨r, e, hr⟩ := index_ev l s hl d (i + 1) (by omega)
    have hd : l.drop i = l[i]'(by omega) :: l.drop (i + 1) := List.drop_eq_getElem_cons (by omega)
    have hg : rdOf ByteArray.empty l (i : Int) = l[i]'(by omega) := by
      unfold rdOf
      rw [Int.toNat_natCast, List.getD_eq_getElem?_getD, List.getElem?_eq_getElem (by omega)]
      rfl
    by_cases h : s = l[i]'(by omega)
    · refine ⟨i, Ev_succ ?_, ?_⟩
      · simp only [slices_Index_string_string.l0, if_pos (show (i : Int) < (l.length : Int) by omega), if_pos (show (0 : Int) ≤ (i : Int) by omega), hg, if_pos (tl_eq.2 h)]
        exact Ev.now _
      · rw [hd]
        exact ⟨fun _ => by rw [← h]; exact List.mem_cons_self, fun _ => by omega⟩
    · refine ⟨r, Ev_succ ?_, ?_⟩
      · simp only [slices_Index_string_string.l0, if_pos (show (i : Int) < (l.length : Int) by omega), if_pos (show (0 : Int) ≤ (i : Int) by omega), hg, if_neg (fun hh => h (tl_eq.1 hh))]
        rw [w64 (x := (i : Int) + 1) (by omega) (by omega), show (i : Int) + 1 = ((i + 1 : Nat) : Int) by omega]
        exact e
      · rw [hr, hd, List.mem_cons]
        exact ⟨.inr, fun hh => hh.resolve_left h⟩
/-- What a wildcard allows. -/
def allowsP (h : Int) (n : ByteArray) (l : List ByteArray) (s : ByteArray) : Prop := if h = 1 then True else if h = 2 then (s ≠ ⟨#[]⟩ ∧ s ≠ n) else if h = 3 then s ∈ l else False
instance (h : Int) (n : ByteArray) (l : List ByteArray) (s : ByteArray) : Decidable (allowsP h n l s) := by unfold allowsP; infer_instance
theorem allows_ev (h : Int) (n : ByteArray) (l : List ByteArray) (p : Int) (s : ByteArray) (hl : l.length ≤ 8796093022208) : Ev (fun k => wild_Allows.f k h n l p s) (decide (allowsP h n l s)) := by
  unfold wild_Allows.f allowsP
  by_cases h1 : h = 1
  · simp only [if_pos h1, decide_true]
    exact Ev.now _
  by_cases h2 : h = 2
  · simp only [if_neg h1, if_pos h2]
    by_cases h0 : s = ⟨#[]⟩
    · simp only [if_pos (tl_nil.2 h0)]
      have : decide (s ≠ ⟨#[]⟩ ∧ s ≠ n) = false := decide_eq_false (fun hh => hh.1 h0)
      rw [this]
      exact Ev.now _
    · simp only [if_neg (fun hh => h0 (tl_nil.1 hh))]
      have : decide (s ≠ ⟨#[]⟩ ∧ s ≠ n) = (s.toList != n.toList) := by
        by_cases hn : s = n
        · rw [decide_eq_false (fun hh => hh.2 hn), hn, bne_self_eq_false]
        · rw [decide_eq_true ⟨h0, hn⟩]
          exact (bne_iff_ne.2 (fun hh => hn (tl_eq.1 hh))).symm
      rw [this]
      exact Ev.now _
  by_cases h3 : h = 3
  · simp only [if_neg h1, if_neg h2, if_pos h3]
    obtain ⟨r, e, hr⟩ := index_ev l s hl l.length 0 (by omega)
    rw [List.drop_zero] at hr
    have : decide (s ∈ l) = decide (r ≥ 0) := decide_eq_decide.2 hr.symm
    rw [this]
    unfold slices_Contains_string_string.f
    exact Ev.bind (Ev.bind (Ev.congr (f := fun k => slices_Index_string_string.l0 k l s (l.length : Int) ((0 : Nat) : Int)) (fun k => rfl) e) (Ev.now _)) (Ev.now _)
  · simp only [if_neg h1, if_neg h2, if_neg h3, decide_false]
    exact Ev.now _

end Go.Proofs.Ytfpedicgeepikaa.B

namespace Go.Proofs.Ytfpedicgeepikaa.B
open Go.RowKit Go.Proofs.Ytfpedicgeepikaa Go.Proofs.Ytfpedicgeepikaa.G Go.Proofs.Ytfpedicgeepikaa.Pr Go.Proofs.YtfpedicgeepikaaW.PrintWords Go.Proofs.YtfpedicgeepikaaW.PrintLast
set_option linter.unusedVariables false
set_option linter.unusedSimpArgs false
theorem most_eq (h : Int) (n : ByteArray) (l : List ByteArray) (p : Int) : wild_most.f h n l p = some (decide (h = 1 ∨ h = 2)) := by
  unfold wild_most.f
  by_cases h1 : h = 1
  · rw [if_pos h1, decide_eq_true (.inl h1)]
  · rw [if_neg h1]
    congr 1
    by_cases h2 : h = 2
    · rw [decide_eq_true (.inr h2), h2]
      rfl
    · rw [decide_eq_false (fun hh => hh.elim h1 h2)]
      simpa using h2
/-- All spaces that two wildcards name. -/
def specL (n : ByteArray) (l : List ByteArray) (n' : ByteArray) (l' : List ByteArray) : List ByteArray := setL (((([⟨#[]⟩] ++ l) ++ [n]) ++ l') ++ [n'])
theorem mem_specL (n : ByteArray) (l : List ByteArray) (n' : ByteArray) (l' : List ByteArray) (s : ByteArray) : s ∈ specL n l n' l' ↔ s = ⟨#[]⟩ ∨ s ∈ l ∨ s = n ∨ s ∈ l' ∨ s = n' := by
  rw [specL, mem_setL]
  simp only [List.mem_append, List.mem_singleton]
  constructor
  · rintro ((((h | h) | h) | h) | h) <;> simp [h]
  · rintro (h | h | h | h | h) <;> simp [h]
theorem special_ev (h : Int) (n : ByteArray) (l : List ByteArray) (p : Int) (h' : Int) (n' : ByteArray) (l' : List ByteArray) (p' : Int) (hl : l.length ≤ 1048576) (hl' : l'.length ≤ 1048576) :
    Ev (fun k => wild_special.f k [⟨h, n, l, p⟩, ⟨h', n', l', p'⟩]) (specL n l n' l') := by
  refine Ev.congr (f := fun k => wild_special.l0 k [⟨#[]⟩] [⟨h, n, l, p⟩, ⟨h', n', l', p'⟩] 2 0) (fun k => rfl) (Ev_succ (Ev_succ (Ev_succ ?_)))
  have e0 : rd_T26 [(⟨h, n, l, p⟩ : S26), ⟨h', n', l', p'⟩] 0 = ⟨h, n, l, p⟩ := rfl
  have e1 : rd_T26 [(⟨h, n, l, p⟩ : S26), ⟨h', n', l', p'⟩] 1 = ⟨h', n', l', p'⟩ := rfl
  simp only [wild_special.l0, List.length_cons, List.length_nil]
  simp only [show ((0 + 1 + 1 : Nat) : Int) = 2 by rfl, if_pos (show (0 : Int) < 2 by decide), if_pos (show (0 : Int) ≤ 0 by decide), e0, Option.bind_some, List.length_append, List.length_cons, List.length_nil]
  simp only [show wrap64 (0 + 1) = 1 from w64 (by decide) (by decide), show wrap64 (1 + 1) = 2 from w64 (by decide) (by decide), if_pos (show (1 : Int) < 2 by decide), if_pos (show (0 : Int) ≤ 1 by decide), e1, if_neg (show ¬ (2 : Int) < 2 by decide),
    if_pos (show 0 + 1 + l.length < 8796093022208 by omega), if_pos (show 0 + 1 + l.length + (0 + 1) < 8796093022208 by omega), if_pos (show 0 + 1 + l.length + (0 + 1) + l'.length < 8796093022208 by omega), if_pos (show 0 + 1 + l.length + (0 + 1) + l'.length + (0 + 1) < 8796093022208 by omega)]
  have hs : slices_Sort_str.f (((([⟨#[]⟩] ++ l) ++ [n]) ++ l') ++ [n']) = some (sortL (((([⟨#[]⟩] ++ l) ++ [n]) ++ l') ++ [n'])) := by
    unfold slices_Sort_str.f
    rw [if_pos (by simp only [List.length_append, List.length_singleton]; omega)]
  have hc : slices_Compact_str.f (sortL (((([⟨#[]⟩] ++ l) ++ [n]) ++ l') ++ [n'])) = some (specL n l n' l') := by
    unfold slices_Compact_str.f
    rw [if_pos (by rw [sortL_length]; simp only [List.length_append, List.length_singleton]; omega)]
    rfl
  simp only [hs, Option.bind_some, hc]
  exact Ev.now _

end Go.Proofs.Ytfpedicgeepikaa.B

namespace Go.Proofs.Ytfpedicgeepikaa.B
open Go.RowKit Go.Proofs.Ytfpedicgeepikaa Go.Proofs.Ytfpedicgeepikaa.G Go.Proofs.Ytfpedicgeepikaa.Pr Go.Proofs.YtfpedicgeepikaaW.PrintWords Go.Proofs.YtfpedicgeepikaaW.PrintLast
set_option linter.unusedVariables false
set_option linter.unusedSimpArgs false
/-- What say tells of what is allowed and what not. -/
def sayP (others : Bool) (proc : Int) (ins outs : List ByteArray) : Int × ByteArray × List ByteArray × Int × Bool :=
  if others = true then
    match outs with
    | [] => (1, ⟨#[]⟩, [], proc, true)
    | o :: os => if o = ⟨#[]⟩ then (match os with
        | [] => (2, ⟨#[]⟩, [], proc, true)
        | [o2] => (2, o2, [], proc, true)
        | _ :: _ :: _ => (0, ⟨#[]⟩, [], 0, false)) else (0, ⟨#[]⟩, [], 0, false)
  else (3, ⟨#[]⟩, setL ins, proc, true)
theorem sayBoth_l0 (pr : S26 × S26) (cl : ByteArray → Bool) (hcl : ∀ s, Ev (fun k => wild_clBoth.f k pr s) (cl s)) (others : Bool) (proc : Int) (l : List ByteArray) (hl : l.length ≤ 4194304) :
    ∀ (d i : Nat) (xi xo : List ByteArray), i + d = l.length → xi.length + d ≤ 8388608 → xo.length + d ≤ 8388608 →
      Ev (fun k => wild_sayBoth.l0 k others proc pr xi xo l (l.length : Int) (i : Int)) (sayP others proc (xi ++ (l.drop i).filter cl) (xo ++ (l.drop i).filter (fun s => !cl s)))
  | 0, i, xi, xo, hi, h1, h2 => by
    rw [List.drop_of_length_le (by omega)]
    simp only [List.filter_nil, List.append_nil]
    refine Ev_succ ?_
    simp only [wild_sayBoth.l0, if_neg (show ¬ (i : Int) < (l.length : Int) by omega)]
    cases others with
    | false =>
      have ht : wild_these.f xi proc = some (3, ⟨#[]⟩, setL xi, proc) := by
        unfold wild_these.f
        rw [if_pos (by omega)]
        rfl
      simp only [Bool.false_eq_true, if_false, ht, Option.bind_some, sayP]
      exact Ev.now _
    | true =>
      simp only [if_true, sayP]
      match xo with
      | [] =>
        simp only [List.length_nil]
        exact Ev.now _
      | o :: os =>
        simp only [if_neg (show ¬ (((o :: os).length : Nat) : Int) = 0 by simp only [List.length_cons]; omega), if_pos (show (0 : Int) < (((o :: os).length : Nat) : Int) by simp only [List.length_cons]; omega)]
        have e0 : rdOf ByteArray.empty (o :: os) 0 = o := rfl
        simp only [e0]
        by_cases ho : o = ⟨#[]⟩
        · simp only [if_pos (tl_nil.2 ho), if_pos ho]
          refine Ev_succ ?_
          match os with
          | [] =>
            simp only [wild_sayBoth.j1, List.length_cons, List.length_nil]
            exact Ev.now _
          | [o2] =>
            have e1 : rdOf ByteArray.empty [o, o2] 1 = o2 := rfl
            simp only [wild_sayBoth.j1, List.length_cons, List.length_nil, e1]
            exact Ev.now _
          | o2 :: o3 :: os' =>
            simp only [wild_sayBoth.j1, decide_eq_true (show (((o :: o2 :: o3 :: os').length : Nat) : Int) > 2 by simp only [List.length_cons]; omega), if_true]
            exact Ev.now _
        · simp only [if_neg (fun hh => ho (tl_nil.1 hh)), if_neg ho]
          refine Ev_succ ?_
          simp only [wild_sayBoth.j1, if_true]
          exact Ev.now _
  | d + 1, i, xi, xo, hi, h1, h2 => by
    have hd : l.drop i = l[i]'(by omega) :: l.drop (i + 1) := List.drop_eq_getElem_cons (by omega)
    have hg : rdOf ByteArray.empty l (i : Int) = l[i]'(by omega) := by
      unfold rdOf
      rw [Int.toNat_natCast, List.getD_eq_getElem?_getD, List.getElem?_eq_getElem (by omega)]
      rfl
    have hw : wrap64 ((i : Int) + 1) = ((i + 1 : Nat) : Int) := by rw [w64 (x := (i : Int) + 1) (by omega) (by omega)]; omega
    refine Ev_succ ?_
    simp only [wild_sayBoth.l0, if_pos (show (i : Int) < (l.length : Int) by omega), if_pos (show (0 : Int) ≤ (i : Int) by omega), hg, hw, if_pos (show xi.length < 8796093022208 by omega), if_pos (show xo.length < 8796093022208 by omega)]
    refine Ev.bind (hcl _) ?_
    rw [hd]
    cases hc : cl (l[i]'(by omega)) with
    | true =>
      have := sayBoth_l0 pr cl hcl others proc l hl d (i + 1) (xi ++ [l[i]'(by omega)]) xo (by omega) (by simp only [List.length_append, List.length_singleton]; omega) (by omega)
      simp only [if_true, List.filter_cons, hc, Bool.not_true, Bool.false_eq_true, if_false]
      simpa [List.append_assoc] using this
    | false =>
      have := sayBoth_l0 pr cl hcl others proc l hl d (i + 1) xi (xo ++ [l[i]'(by omega)]) (by omega) (by omega) (by simp only [List.length_append, List.length_singleton]; omega)
      simp only [Bool.false_eq_true, if_false, List.filter_cons, hc, Bool.not_false, if_true]
      simpa [List.append_assoc] using this
theorem sayBoth_ev (pr : S26 × S26) (cl : ByteArray → Bool) (hcl : ∀ s, Ev (fun k => wild_clBoth.f k pr s) (cl s)) (others : Bool) (proc : Int) (l : List ByteArray) (hl : l.length ≤ 4194304) :
    Ev (fun k => wild_sayBoth.f k l others proc pr) (sayP others proc (l.filter cl) (l.filter (fun s => !cl s))) := by
  have := sayBoth_l0 pr cl hcl others proc l hl l.length 0 [] [] (by omega) (by simp; omega) (by simp; omega)
  rw [List.drop_zero] at this
  exact Ev.congr (fun k => rfl) this
theorem sayUnion_l0 (pr : S26 × S26) (cl : ByteArray → Bool) (hcl : ∀ s, Ev (fun k => wild_clUnion.f k pr s) (cl s)) (others : Bool) (proc : Int) (l : List ByteArray) (hl : l.length ≤ 4194304) :
    ∀ (d i : Nat) (xi xo : List ByteArray), i + d = l.length → xi.length + d ≤ 8388608 → xo.length + d ≤ 8388608 →
      Ev (fun k => wild_sayUnion.l0 k others proc pr xi xo l (l.length : Int) (i : Int)) (sayP others proc (xi ++ (l.drop i).filter cl) (xo ++ (l.drop i).filter (fun s => !cl s)))
  | 0, i, xi, xo, hi, h1, h2 => by
    rw [List.drop_of_length_le (by omega)]
    simp only [List.filter_nil, List.append_nil]
    refine Ev_succ ?_
    simp only [wild_sayUnion.l0, if_neg (show ¬ (i : Int) < (l.length : Int) by omega)]
    cases others with
    | false =>
      have ht : wild_these.f xi proc = some (3, ⟨#[]⟩, setL xi, proc) := by
        unfold wild_these.f
        rw [if_pos (by omega)]
        rfl
      simp only [Bool.false_eq_true, if_false, ht, Option.bind_some, sayP]
      exact Ev.now _
    | true =>
      simp only [if_true, sayP]
      match xo with
      | [] =>
        simp only [List.length_nil]
        exact Ev.now _
      | o :: os =>
        simp only [if_neg (show ¬ (((o :: os).length : Nat) : Int) = 0 by simp only [List.length_cons]; omega), if_pos (show (0 : Int) < (((o :: os).length : Nat) : Int) by simp only [List.length_cons]; omega)]
        have e0 : rdOf ByteArray.empty (o :: os) 0 = o := rfl
        simp only [e0]
        by_cases ho : o = ⟨#[]⟩
        · simp only [if_pos (tl_nil.2 ho), if_pos ho]
          refine Ev_succ ?_
          match os with
          | [] =>
            simp only [wild_sayUnion.j1, List.length_cons, List.length_nil]
            exact Ev.now _
          | [o2] =>
            have e1 : rdOf ByteArray.empty [o, o2] 1 = o2 := rfl
            simp only [wild_sayUnion.j1, List.length_cons, List.length_nil, e1]
            exact Ev.now _
          | o2 :: o3 :: os' =>
            simp only [wild_sayUnion.j1, decide_eq_true (show (((o :: o2 :: o3 :: os').length : Nat) : Int) > 2 by simp only [List.length_cons]; omega), if_true]
            exact Ev.now _
        · simp only [if_neg (fun hh => ho (tl_nil.1 hh)), if_neg ho]
          refine Ev_succ ?_
          simp only [wild_sayUnion.j1, if_true]
          exact Ev.now _
  | d + 1, i, xi, xo, hi, h1, h2 => by
    have hd : l.drop i = l[i]'(by omega) :: l.drop (i + 1) := List.drop_eq_getElem_cons (by omega)
    have hg : rdOf ByteArray.empty l (i : Int) = l[i]'(by omega) := by
      unfold rdOf
      rw [Int.toNat_natCast, List.getD_eq_getElem?_getD, List.getElem?_eq_getElem (by omega)]
      rfl
    have hw : wrap64 ((i : Int) + 1) = ((i + 1 : Nat) : Int) := by rw [w64 (x := (i : Int) + 1) (by omega) (by omega)]; omega
    refine Ev_succ ?_
    simp only [wild_sayUnion.l0, if_pos (show (i : Int) < (l.length : Int) by omega), if_pos (show (0 : Int) ≤ (i : Int) by omega), hg, hw, if_pos (show xi.length < 8796093022208 by omega), if_pos (show xo.length < 8796093022208 by omega)]
    refine Ev.bind (hcl _) ?_
    rw [hd]
    cases hc : cl (l[i]'(by omega)) with
    | true =>
      have := sayUnion_l0 pr cl hcl others proc l hl d (i + 1) (xi ++ [l[i]'(by omega)]) xo (by omega) (by simp only [List.length_append, List.length_singleton]; omega) (by omega)
      simp only [if_true, List.filter_cons, hc, Bool.not_true, Bool.false_eq_true, if_false]
      simpa [List.append_assoc] using this
    | false =>
      have := sayUnion_l0 pr cl hcl others proc l hl d (i + 1) xi (xo ++ [l[i]'(by omega)]) (by omega) (by omega) (by simp only [List.length_append, List.length_singleton]; omega)
      simp only [Bool.false_eq_true, if_false, List.filter_cons, hc, Bool.not_false, if_true]
      simpa [List.append_assoc] using this
theorem sayUnion_ev (pr : S26 × S26) (cl : ByteArray → Bool) (hcl : ∀ s, Ev (fun k => wild_clUnion.f k pr s) (cl s)) (others : Bool) (proc : Int) (l : List ByteArray) (hl : l.length ≤ 4194304) :
    Ev (fun k => wild_sayUnion.f k l others proc pr) (sayP others proc (l.filter cl) (l.filter (fun s => !cl s))) := by
  have := sayUnion_l0 pr cl hcl others proc l hl l.length 0 [] [] (by omega) (by simp; omega) (by simp; omega)
  rw [List.drop_zero] at this
  exact Ev.congr (fun k => rfl) this


end Go.Proofs.Ytfpedicgeepikaa.B

namespace Go.Proofs.Ytfpedicgeepikaa.B
open Go.RowKit Go.Proofs.Ytfpedicgeepikaa Go.Proofs.Ytfpedicgeepikaa.G Go.Proofs.Ytfpedicgeepikaa.Pr Go.Proofs.YtfpedicgeepikaaW.PrintWords Go.Proofs.YtfpedicgeepikaaW.PrintLast
set_option linter.unusedVariables false
set_option linter.unusedSimpArgs false
theorem clBoth_ev (h : Int) (n : ByteArray) (l : List ByteArray) (p : Int) (h' : Int) (n' : ByteArray) (l' : List ByteArray) (p' : Int) (hl : l.length ≤ 1048576) (hl' : l'.length ≤ 1048576) (s : ByteArray) :
    Ev (fun k => wild_clBoth.f k (⟨h, n, l, p⟩, ⟨h', n', l', p'⟩) s) (decide (allowsP h n l s) && decide (allowsP h' n' l' s)) := by
  refine Ev.bind (allows_ev h n l p s (by omega)) ?_
  cases decide (allowsP h n l s) with
  | true =>
    simp only [if_true, Bool.true_and]
    exact allows_ev h' n' l' p' s (by omega)
  | false =>
    simp only [Bool.false_eq_true, if_false, Bool.false_and]
    exact Ev.now _
theorem clUnion_ev (h : Int) (n : ByteArray) (l : List ByteArray) (p : Int) (h' : Int) (n' : ByteArray) (l' : List ByteArray) (p' : Int) (hl : l.length ≤ 1048576) (hl' : l'.length ≤ 1048576) (s : ByteArray) :
    Ev (fun k => wild_clUnion.f k (⟨h, n, l, p⟩, ⟨h', n', l', p'⟩) s) (decide (allowsP h n l s) || decide (allowsP h' n' l' s)) := by
  refine Ev.bind (allows_ev h n l p s (by omega)) ?_
  cases decide (allowsP h n l s) with
  | true =>
    simp only [if_true, Bool.true_or]
    exact Ev.now _
  | false =>
    simp only [Bool.false_eq_true, if_false, Bool.false_or]
    exact allows_ev h' n' l' p' s (by omega)
def bothP (h : Int) (n : ByteArray) (l : List ByteArray) (p : Int) (h' : Int) (n' : ByteArray) (l' : List ByteArray) : Int × ByteArray × List ByteArray × Int × Bool :=
  sayP (decide (h = 1 ∨ h = 2) && decide (h' = 1 ∨ h' = 2)) p ((specL n l n' l').filter fun s => decide (allowsP h n l s) && decide (allowsP h' n' l' s)) ((specL n l n' l').filter fun s => !(decide (allowsP h n l s) && decide (allowsP h' n' l' s)))
def unionP (h : Int) (n : ByteArray) (l : List ByteArray) (p : Int) (h' : Int) (n' : ByteArray) (l' : List ByteArray) : Int × ByteArray × List ByteArray × Int × Bool :=
  sayP (decide (h = 1 ∨ h = 2) || decide (h' = 1 ∨ h' = 2)) p ((specL n l n' l').filter fun s => decide (allowsP h n l s) || decide (allowsP h' n' l' s)) ((specL n l n' l').filter fun s => !(decide (allowsP h n l s) || decide (allowsP h' n' l' s)))
theorem specL_length (n : ByteArray) (l : List ByteArray) (n' : ByteArray) (l' : List ByteArray) : (specL n l n' l').length ≤ l.length + l'.length + 3 := by
  have := setL_length (((([⟨#[]⟩] ++ l) ++ [n]) ++ l') ++ [n'])
  simp only [List.length_append, List.length_singleton] at this
  unfold specL
  omega
theorem both_ev (h : Int) (n : ByteArray) (l : List ByteArray) (p : Int) (h' : Int) (n' : ByteArray) (l' : List ByteArray) (p' : Int) (hl : l.length ≤ 1048576) (hl' : l'.length ≤ 1048576) :
    Ev (fun k => wild_Both.f k h n l p h' n' l' p') (bothP h n l p h' n' l') := by
  have hs := specL_length n l n' l'
  have hc := clBoth_ev h n l p h' n' l' p' hl hl'
  refine Ev.bind (special_ev h n l p h' n' l' p' hl hl') ?_
  simp only [most_eq, Option.bind_some]
  unfold bothP
  cases decide (h = 1 ∨ h = 2) with
  | true =>
    simp only [if_true, Bool.true_and]
    exact Ev.bind (sayBoth_ev _ _ hc _ p _ (by omega)) (Ev.now _)
  | false =>
    simp only [Bool.false_eq_true, if_false, Bool.false_and]
    exact Ev.bind (sayBoth_ev _ _ hc _ p _ (by omega)) (Ev.now _)
theorem union_ev (h : Int) (n : ByteArray) (l : List ByteArray) (p : Int) (h' : Int) (n' : ByteArray) (l' : List ByteArray) (p' : Int) (hl : l.length ≤ 1048576) (hl' : l'.length ≤ 1048576) :
    Ev (fun k => wild_Union.f k h n l p h' n' l' p') (unionP h n l p h' n' l') := by
  have hs := specL_length n l n' l'
  have hc := clUnion_ev h n l p h' n' l' p' hl hl'
  refine Ev.bind (special_ev h n l p h' n' l' p' hl hl') ?_
  simp only [most_eq, Option.bind_some]
  unfold unionP
  cases decide (h = 1 ∨ h = 2) with
  | true =>
    simp only [if_true, Bool.true_or]
    exact Ev.bind (sayUnion_ev _ _ hc _ p _ (by omega)) (Ev.now _)
  | false =>
    simp only [Bool.false_eq_true, if_false, Bool.false_or]
    exact Ev.bind (sayUnion_ev _ _ hc _ p _ (by omega)) (Ev.now _)

end Go.Proofs.Ytfpedicgeepikaa.B

namespace Go.Proofs.Ytfpedicgeepikaa.B
open Go.RowKit Go.Proofs.Ytfpedicgeepikaa Go.Proofs.Ytfpedicgeepikaa.G Go.Proofs.Ytfpedicgeepikaa.Pr Go.Proofs.YtfpedicgeepikaaW.PrintWords Go.Proofs.YtfpedicgeepikaaW.PrintLast
set_option linter.unusedVariables false
set_option linter.unusedSimpArgs false
theorem sub_l0 (h : Int) (n : ByteArray) (l : List ByteArray) (p : Int) (h' : Int) (n' : ByteArray) (l' : List ByteArray) (p' : Int) (hl : l.length ≤ 1048576) (hl' : l'.length ≤ 1048576) (S : List ByteArray) (hS : S.length ≤ 4194304) :
    ∀ (d i : Nat), i + d = S.length → Ev (fun k => wild_Sub.l0 k S (S.length : Int) (i : Int) h n l p h' n' l' p') ((S.drop i).all fun s => !decide (allowsP h n l s) || decide (allowsP h' n' l' s))
  | 0, i, hi => by
    rw [List.drop_of_length_le (by omega)]
    refine Ev_succ ?_
    simp only [wild_Sub.l0, if_neg (show ¬ (i : Int) < (S.length : Int) by omega), List.all_nil]
    exact Ev.now _
  | d + 1, i, hi => by
    have hd : S.drop i = S[i]'(by omega) :: S.drop (i + 1) := List.drop_eq_getElem_cons (by omega)
    have hg : rdOf ByteArray.empty S (i : Int) = S[i]'(by omega) := by
      unfold rdOf
      rw [Int.toNat_natCast, List.getD_eq_getElem?_getD, List.getElem?_eq_getElem (by omega)]
      rfl
    have hw : wrap64 ((i : Int) + 1) = ((i + 1 : Nat) : Int) := by rw [w64 (x := (i : Int) + 1) (by omega) (by omega)]; omega
    have ih := sub_l0 h n l p h' n' l' p' hl hl' S hS d (i + 1) (by omega)
    refine Ev_succ ?_
    simp only [wild_Sub.l0, if_pos (show (i : Int) < (S.length : Int) by omega), if_pos (show (0 : Int) ≤ (i : Int) by omega), hg, hw]
    refine Ev.bind (allows_ev h n l p _ (by omega)) ?_
    rw [hd, List.all_cons]
    cases decide (allowsP h n l (S[i]'(by omega))) with
    | false =>
      simp only [Bool.false_eq_true, if_false, Bool.not_false, Bool.true_or, Bool.true_and]
      exact ih
    | true =>
      simp only [if_true, Bool.not_true, Bool.false_or]
      refine Ev.bind (allows_ev h' n' l' p' _ (by omega)) ?_
      cases decide (allowsP h' n' l' (S[i]'(by omega))) with
      | true =>
        simp only [if_true, Bool.true_and]
        exact ih
      | false =>
        simp only [Bool.false_eq_true, if_false, Bool.false_and]
        exact Ev.now _
def subP (h : Int) (n : ByteArray) (l : List ByteArray) (h' : Int) (n' : ByteArray) (l' : List ByteArray) : Bool :=
  !(decide (h = 1 ∨ h = 2) && !decide (h' = 1 ∨ h' = 2)) && (specL n l n' l').all fun s => !decide (allowsP h n l s) || decide (allowsP h' n' l' s)
theorem sub_ev (h : Int) (n : ByteArray) (l : List ByteArray) (p : Int) (h' : Int) (n' : ByteArray) (l' : List ByteArray) (p' : Int) (hl : l.length ≤ 1048576) (hl' : l'.length ≤ 1048576) :
    Ev (fun k => wild_Sub.f k h n l p h' n' l' p') (subP h n l h' n' l') := by
  have hs := specL_length n l n' l'
  have go : Ev (fun k => wild_Sub.j0 k false h n l p h' n' l' p') ((specL n l n' l').all fun s => !decide (allowsP h n l s) || decide (allowsP h' n' l' s)) := by
    refine Ev_succ ?_
    simp only [wild_Sub.j0, Bool.false_eq_true, if_false]
    refine Ev.bind (special_ev h n l p h' n' l' p' hl hl') ?_
    have := sub_l0 h n l p h' n' l' p' hl hl' (specL n l n' l') (by omega) (specL n l n' l').length 0 (by omega)
    rw [List.drop_zero] at this
    exact this
  unfold subP
  unfold wild_Sub.f
  simp only [most_eq, Option.bind_some]
  cases decide (h = 1 ∨ h = 2) with
  | false =>
    simp only [Bool.false_eq_true, if_false, Bool.false_and, Bool.not_false, Bool.true_and]
    exact go
  | true =>
    simp only [if_true]
    cases decide (h' = 1 ∨ h' = 2) with
    | true => exact go
    | false =>
      refine Ev_succ ?_
      simp only [wild_Sub.j0, Bool.not_false, if_true]
      exact Ev.now _

end Go.Proofs.Ytfpedicgeepikaa.B

namespace Go.Proofs.Ytfpedicgeepikaa.B
open Go.RowKit Go.Proofs.Ytfpedicgeepikaa Go.Proofs.Ytfpedicgeepikaa.G Go.Proofs.Ytfpedicgeepikaa.Pr Go.Proofs.YtfpedicgeepikaaW.PrintWords Go.Proofs.YtfpedicgeepikaaW.PrintLast
set_option linter.unusedVariables false
set_option linter.unusedSimpArgs false
/-- Is a byte white? -/
def whiteB (b : UInt8) : Bool := b == 32 || b == 9 || b == 10 || b == 13
/-- The words of a text; acc: the word begun. -/
def wrd : List UInt8 → List UInt8 → List (List UInt8)
  | acc, [] => if acc = [] then [] else [acc]
  | acc, b :: t => if whiteB b = true then (if acc = [] then wrd [] t else acc :: wrd [] t) else wrd (acc ++ [b]) t
theorem bt_of (s : ByteArray) (pre rest : List UInt8) (b : UInt8) (h : lst s = pre ++ b :: rest) : bt s (pre.length : Int) = (b.toNat : Int) := by
  have hs : s.size = pre.length + (rest.length + 1) := by
    have := congrArg List.length h
    simpa [lst] using this
  unfold bt
  rw [dif_pos (by omega)]
  have : s[(pre.length : Int).toNat]'(by omega) = b := by
    have h1 : (lst s)[pre.length]'(by rw [h]; simp) = b := by simp [h]
    rw [← h1]
    simp [lst]
    rfl
  rw [this]
theorem u8_ne {b c : UInt8} (h : b ≠ c) : (b.toNat : Int) ≠ (c.toNat : Int) := fun e => h (UInt8.toNat_inj.1 (by omega))
theorem white_eq (b : UInt8) : char_White.f (wrap32 (b.toNat : Int)) = some (whiteB b) := by
  have hb := b.toNat_lt
  have hw : wrap32 (b.toNat : Int) = (b.toNat : Int) := by unfold wrap32; omega
  rw [hw]
  unfold char_White.f whiteB
  by_cases h1 : b = 32
  · subst h1; rfl
  have n1 : ¬ (b.toNat : Int) = 32 := u8_ne h1
  by_cases h2 : b = 9
  · subst h2; rfl
  have n2 : ¬ (b.toNat : Int) = 9 := u8_ne h2
  by_cases h3 : b = 10
  · subst h3; rfl
  have n3 : ¬ (b.toNat : Int) = 10 := u8_ne h3
  by_cases h4 : b = 13
  · subst h4; rfl
  have n4 : ¬ (b.toNat : Int) = 13 := u8_ne h4
  rw [if_neg n1, if_neg n2, if_neg n3]
  have e1 : (b == 32) = false := by simpa using h1
  have e2 : (b == 9) = false := by simpa using h2
  have e3 : (b == 10) = false := by simpa using h3
  have e4 : (b == 13) = false := by simpa using h4
  have e5 : ((b.toNat : Int) == 13) = false := by simpa using n4
  rw [e1, e2, e3, e4, e5]
  rfl
theorem words_l0 (s : ByteArray) (hs : s.size ≤ 4194304) : ∀ (rest : List UInt8) (q acc : List UInt8) (out : List ByteArray), lst s = q ++ acc ++ rest → out.length + rest.length ≤ 8388608 →
    Ev (fun k => char_Words.l0 k s out (q.length : Int) (((q ++ acc).length : Nat) : Int)) (out ++ (wrd acc rest).map mkB)
  | [], q, acc, out, h, ho => by
    have hsz : s.size = (q ++ acc).length := by
      have := congrArg List.length h
      simpa [lst] using this
    have hx : s.extract q.length (q ++ acc).length = mkB acc := by
      apply lst_inj
      rw [lst_mk]
      unfold lst
      rw [ByteArray.data_extract, Array.toList_extract, List.extract_eq_take_drop]
      have h' : s.data.toList = q ++ acc ++ [] := h
      rw [h']
      simp
    refine Ev_succ (Ev_succ ?_)
    simp only [char_Words.l0, if_pos (show (((q ++ acc).length : Nat) : Int) ≤ (s.size : Int) by omega), if_neg (show ¬ (((q ++ acc).length : Nat) : Int) < (s.size : Int) by omega), char_Words.j1, Bool.false_eq_true, if_false]
    have hw : wrap64 ((((q ++ acc).length : Nat) : Int) + 1) = (((q ++ acc).length : Nat) : Int) + 1 := w64 (by omega) (by omega)
    by_cases ha : acc = []
    · subst ha
      rw [List.append_nil] at *
      simp only [if_neg (show ¬ ((q.length : Nat) : Int) > (q.length : Int) by omega), hw, wrd, if_true, List.map_nil, List.append_nil]
      refine Ev_succ ?_
      simp only [char_Words.l0, if_neg (show ¬ (q.length : Int) + 1 ≤ (s.size : Int) by omega)]
      exact Ev.now _
    · have hl : 0 < acc.length := List.length_pos_iff.2 ha
      have hlen : (q ++ acc).length = q.length + acc.length := List.length_append
      simp only [if_pos (show (((q ++ acc).length : Nat) : Int) > (q.length : Int) by omega), if_pos (show (0 : Int) ≤ (q.length : Int) by omega), if_pos (show (q.length : Int) ≤ (((q ++ acc).length : Nat) : Int) by omega), if_pos (show (((q ++ acc).length : Nat) : Int) ≤ (s.size : Int) by omega), if_pos (show out.length < 8796093022208 by omega), hw, Int.toNat_natCast, hx]
      refine Ev_succ ?_
      simp only [char_Words.l0, if_neg (show ¬ (((q ++ acc).length : Nat) : Int) + 1 ≤ (s.size : Int) by omega), wrd, if_neg ha, List.map_cons, List.map_nil]
      exact Ev.now _
  | b :: rest, q, acc, out, h, ho => by
    have hsz : s.size = (q ++ acc).length + (rest.length + 1) := by
      have := congrArg List.length h
      simp only [List.length_append, List.length_cons, lst, Array.length_toList] at this
      rw [List.length_append]
      exact this
    simp only [List.length_cons] at ho
    have hlen : (q ++ acc).length = q.length + acc.length := List.length_append
    have hb := bt_of s (q ++ acc) rest b h
    have hw : wrap64 ((((q ++ acc).length : Nat) : Int) + 1) = (((q ++ acc).length + 1 : Nat) : Int) := by
      rw [w64 (x := (((q ++ acc).length : Nat) : Int) + 1) (by omega) (by omega)]
      omega
    have hx : s.extract q.length (q ++ acc).length = mkB acc := by
      apply lst_inj
      rw [lst_mk]
      unfold lst
      rw [ByteArray.data_extract, Array.toList_extract, List.extract_eq_take_drop]
      have h' : s.data.toList = q ++ acc ++ b :: rest := h
      rw [h']
      simp
    refine Ev_succ (Ev_succ ?_)
    simp only [char_Words.l0, if_pos (show (((q ++ acc).length : Nat) : Int) ≤ (s.size : Int) by omega), if_pos (show (((q ++ acc).length : Nat) : Int) < (s.size : Int) by omega), if_pos (show (0 : Int) ≤ (((q ++ acc).length : Nat) : Int) by omega), hb, white_eq, Option.bind_some, char_Words.j1, hw]
    cases hwb : whiteB b with
    | false =>
      have ih := words_l0 s hs rest q (acc ++ [b]) out (by rw [h]; simp) (by omega)
      have e : (q ++ (acc ++ [b])).length = (q ++ acc).length + 1 := by simp; omega
      rw [e] at ih
      simp only [Bool.not_false, if_true, wrd, hwb, Bool.false_eq_true, if_false]
      exact ih
    | true =>
      simp only [Bool.not_true, Bool.false_eq_true, if_false, wrd, hwb, if_true]
      by_cases ha : acc = []
      · subst ha
        have ih := words_l0 s hs rest (q ++ [b]) [] out (by rw [h]; simp) (by omega)
        have e : ((q ++ [b]) ++ []).length = (q ++ []).length + 1 := by simp
        have e2 : (q ++ [b]).length = (q ++ []).length + 1 := by simp
        rw [e, e2] at ih
        simp only [if_neg (show ¬ (((q ++ []).length : Nat) : Int) > (q.length : Int) by simp), if_true]
        exact ih
      · have hl : 0 < acc.length := List.length_pos_iff.2 ha
        have ih := words_l0 s hs rest (q ++ acc ++ [b]) [] (out ++ [mkB acc]) (by rw [h]; simp) (by simp only [List.length_append, List.length_singleton]; omega)
        have e : ((q ++ acc ++ [b]) ++ []).length = (q ++ acc).length + 1 := by simp; omega
        have e2 : (q ++ acc ++ [b]).length = (q ++ acc).length + 1 := by simp; omega
        rw [e, e2] at ih
        simp only [if_pos (show (((q ++ acc).length : Nat) : Int) > (q.length : Int) by omega), if_pos (show (0 : Int) ≤ (q.length : Int) by omega), if_pos (show (q.length : Int) ≤ (((q ++ acc).length : Nat) : Int) by omega), if_pos (show (((q ++ acc).length : Nat) : Int) ≤ (s.size : Int) by omega), if_pos (show out.length < 8796093022208 by omega), Int.toNat_natCast, hx, if_neg ha, List.map_cons]
        simpa [List.append_assoc] using ih
theorem words_ev (s : ByteArray) (hs : s.size ≤ 4194304) : Ev (fun k => char_Words.f k s) ((wrd [] (lst s)).map mkB) := by
  have := words_l0 s hs (lst s) [] [] [] (by simp) (by
    have : (lst s).length = s.size := by simp [lst]
    simp only [List.length_nil]
    omega)
  exact Ev.congr (f := fun k => char_Words.l0 k s [] 0 0) (fun k => rfl) (by simpa using this)

end Go.Proofs.Ytfpedicgeepikaa.B

namespace Go.Proofs.Ytfpedicgeepikaa.B
open Go.RowKit Go.Proofs.Ytfpedicgeepikaa Go.Proofs.Ytfpedicgeepikaa.G Go.Proofs.Ytfpedicgeepikaa.Pr Go.Proofs.YtfpedicgeepikaaW.PrintWords Go.Proofs.YtfpedicgeepikaaW.PrintLast
set_option linter.unusedVariables false
set_option linter.unusedSimpArgs false
def tgtW : ByteArray := ⟨#[35, 35, 116, 97, 114, 103, 101, 116, 78, 97, 109, 101, 115, 112, 97, 99, 101]⟩
def locW : ByteArray := ⟨#[35, 35, 108, 111, 99, 97, 108]⟩
theorem tl_is {a : ByteArray} (l : List UInt8) : a.toList = l ↔ a = mkB l := by
  rw [toList_lst]
  exact ⟨fun h => by rw [← h, mk_lst], fun h => by rw [h, lst_mk]⟩
theorem hp_false (w : ByteArray) (hw : (lst w).head? ≠ some 35) : strings_HasPrefix.f w (⟨#[35, 35]⟩ : ByteArray) = some false := by
  unfold strings_HasPrefix.f stringslite_HasPrefix.f
  have h2 : ((⟨#[35, 35]⟩ : ByteArray).size : Int) = 2 := rfl
  rw [h2]
  by_cases h : (w.size : Int) ≥ 2
  · rw [if_pos h, if_pos (by decide), if_pos (by omega)]
    simp only [Option.bind_some]
    congr 1
    rw [beq_eq_false_iff_ne]
    intro e
    rw [toList_lst, toList_lst] at e
    have e2 : lst (w.extract 0 (2 : Int).toNat) = (lst w).take 2 := by
      unfold lst
      rw [ByteArray.data_extract, Array.toList_extract, List.extract_eq_take_drop]
      simp
    rw [e2] at e
    apply hw
    cases hl : lst w with
    | nil => rw [hl] at e; cases e
    | cons b t =>
      rw [hl] at e
      simp only [List.take_succ_cons] at e
      have : b = 35 := (List.cons.inj (e.trans (show lst (⟨#[35, 35]⟩ : ByteArray) = [35, 35] from rfl))).1
      rw [this]
      rfl
  · rw [if_neg h]
    rfl
/-- What a word of a wildcard's text names. -/
def mapW (t w : ByteArray) : ByteArray := if w = tgtW then t else if w = locW then ⟨#[]⟩ else w
def GoodW (w : ByteArray) : Prop := w = tgtW ∨ w = locW ∨ (lst w).head? ≠ some 35
theorem parse_l0 (t : ByteArray) (p : Int) (ws : List ByteArray) (hws : ws.length ≤ 1048576) (hg : ∀ w, w ∈ ws → GoodW w) :
    ∀ (d i : Nat) (out : List ByteArray), i + d = ws.length → out.length + d ≤ 2097152 → Ev (fun k => wild_Parse.l0 k t p out ws (ws.length : Int) (i : Int)) (3, ⟨#[]⟩, setL (out ++ (ws.drop i).map (mapW t)), p, 0)
  | 0, i, out, hi, ho => by
    rw [List.drop_of_length_le (by omega), List.map_nil, List.append_nil]
    have ht : wild_these.f out p = some (3, ⟨#[]⟩, setL out, p) := by
      unfold wild_these.f
      rw [if_pos (by omega)]
      rfl
    refine Ev_succ ?_
    simp only [wild_Parse.l0, if_neg (show ¬ (i : Int) < (ws.length : Int) by omega), ht, Option.bind_some]
    exact Ev.now _
  | d + 1, i, out, hi, ho => by
    have hd : ws.drop i = ws[i]'(by omega) :: ws.drop (i + 1) := List.drop_eq_getElem_cons (by omega)
    have hr : rdOf ByteArray.empty ws (i : Int) = ws[i]'(by omega) := by
      unfold rdOf
      rw [Int.toNat_natCast, List.getD_eq_getElem?_getD, List.getElem?_eq_getElem (by omega)]
      rfl
    have hw : wrap64 ((i : Int) + 1) = ((i + 1 : Nat) : Int) := by rw [w64 (x := (i : Int) + 1) (by omega) (by omega)]; omega
    have gw := hg _ (List.getElem_mem (show i < ws.length by omega))
    refine Ev_succ ?_
    simp only [wild_Parse.l0, if_pos (show (i : Int) < (ws.length : Int) by omega), if_pos (show (0 : Int) ≤ (i : Int) by omega), hr, hw, if_pos (show out.length < 8796093022208 by omega)]
    rw [hd, List.map_cons]
    generalize ws[i]'(by omega) = x at gw ⊢
    have ih := parse_l0 t p ws hws hg d (i + 1) (out ++ [mapW t x]) (by omega) (by simp only [List.length_append, List.length_singleton]; omega)
    rw [List.append_assoc, List.singleton_append] at ih
    by_cases h1 : x = tgtW
    · simp only [if_pos ((tl_is _).2 (h1.trans rfl))]
      have e : mapW t x = t := by unfold mapW; rw [if_pos h1]
      rw [e] at ih ⊢
      exact ih
    · simp only [if_neg (fun hh => h1 (((tl_is _).1 hh).trans rfl))]
      by_cases h2 : x = locW
      · simp only [if_pos ((tl_is _).2 (h2.trans rfl))]
        have e : mapW t x = ⟨#[]⟩ := by unfold mapW; rw [if_neg h1, if_pos h2]
        rw [e] at ih ⊢
        exact ih
      · simp only [if_neg (fun hh => h2 (((tl_is _).1 hh).trans rfl)), hp_false x ((gw.resolve_left h1).resolve_left h2), Option.bind_some, Bool.false_eq_true, if_false]
        have e : mapW t x = x := by unfold mapW; rw [if_neg h1, if_neg h2]
        rw [e] at ih ⊢
        exact ih

end Go.Proofs.Ytfpedicgeepikaa.B

namespace Go.Proofs.Ytfpedicgeepikaa.B
open Go.RowKit Go.Proofs.Ytfpedicgeepikaa Go.Proofs.Ytfpedicgeepikaa.G Go.Proofs.Ytfpedicgeepikaa.Pr Go.Proofs.YtfpedicgeepikaaW.PrintWords Go.Proofs.YtfpedicgeepikaaW.PrintLast
set_option linter.unusedVariables false
set_option linter.unusedSimpArgs false
theorem proc0 : Ev (fun k => wild_process.f k (⟨#[]⟩ : ByteArray)) 1 := by
  refine Ev.congr (f := fun k => wild_process.j0 k ⟨#[]⟩ true) (fun k => ?_) (Ev_succ ?_)
  · unfold wild_process.f
    rw [if_pos (tl_nil.2 rfl), (beq_iff_eq.2 (tl_nil.2 rfl) : ((⟨#[]⟩ : ByteArray).toList == ([] : List UInt8)) = true)]
  · simp only [wild_process.j0, if_true]
    exact Ev.now _
/-- A text that names spaces. -/
theorem parse_these (s t : ByteArray) (hs : s.size ≤ 1048576) (ws : List ByteArray) (hw : (wrd [] (lst s)).map mkB = ws) (hl : ws.length ≤ 1048576) (h0 : ws ≠ []) (h1 : ∀ w, ws = [w] → w ≠ mkB [35, 35, 97, 110, 121] ∧ w ≠ mkB [35, 35, 111, 116, 104, 101, 114]) (hg : ∀ w, w ∈ ws → GoodW w) :
    Ev (fun k => wild_Parse.f k s t ⟨#[]⟩) (3, ⟨#[]⟩, setL (ws.map (mapW t)), 1, 0) := by
  have hW := words_ev s (by omega)
  rw [hw] at hW
  have hL := parse_l0 t 1 ws hl hg ws.length 0 [] (by omega) (by simp only [List.length_nil]; omega)
  rw [List.drop_zero, List.nil_append] at hL
  have hlen : 0 < ws.length := List.length_pos_iff.2 h0
  unfold wild_Parse.f
  refine Ev.bind proc0 ?_
  simp only [if_neg (show ¬ (1 : Int) = 0 by decide)]
  refine Ev.bind hW ?_
  simp only [if_neg (show ¬ (ws.length : Int) = 0 by omega)]
  by_cases hone : (ws.length : Int) = 1
  · obtain ⟨w, rfl⟩ : ∃ w, ws = [w] := List.length_eq_one_iff.1 (by omega)
    have e0 : rdOf ByteArray.empty [w] 0 = w := rfl
    simp only [if_pos hone, if_pos (show (0 : Int) < (([w] : List ByteArray).length : Int) by simp), e0]
    have n1 : (w.toList == ([35, 35, 97, 110, 121] : List UInt8)) = false := beq_eq_false_iff_ne.2 (fun hh => (h1 w rfl).1 ((tl_is _).1 hh))
    rw [n1]
    refine Ev_succ (Ev.congr (f := fun k => wild_Parse.j1 k t 1 [w]) (fun k => ?_) (Ev_succ (Ev.congr (fun k => rfl) hL)))
    simp only [wild_Parse.j0, Bool.false_eq_true, if_false, if_pos hone, if_pos (show (0 : Int) < (([w] : List ByteArray).length : Int) by simp), e0, if_neg (fun hh => (h1 w rfl).2 ((tl_is _).1 hh))]
  · simp only [if_neg hone]
    refine Ev_succ (Ev.congr (f := fun k => wild_Parse.j1 k t 1 ws) (fun k => ?_) (Ev_succ (Ev.congr (fun k => rfl) hL)))
    simp only [wild_Parse.j0, Bool.false_eq_true, if_false, if_neg hone]

end Go.Proofs.Ytfpedicgeepikaa.B
