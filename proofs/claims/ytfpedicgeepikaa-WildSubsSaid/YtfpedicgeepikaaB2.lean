import Derived.Test.YtfpedicgeepikaaB1
namespace Go.Proofs.Ytfpedicgeepikaa.B
open Go.RowKit Go.Proofs.Ytfpedicgeepikaa Go.Proofs.Ytfpedicgeepikaa.G Go.Proofs.Ytfpedicgeepikaa.Pr Go.Proofs.YtfpedicgeepikaaW.PrintWords Go.Proofs.YtfpedicgeepikaaW.PrintLast
set_option linter.unusedVariables false
set_option linter.unusedSimpArgs false
theorem w64 {x : Int} (h1 : -9223372036854775808 ≤ x) (h2 : x ≤ 9223372036854775807) : wrap64 x = x := by unfold wrap64; omega
theorem Ev_succ {α : Type} {g : Nat → Option α} {r : α} (h : Ev (fun k => g (k + 1)) r) : Ev g r := Ev.step (fun _ => rfl) h
theorem toList_lst (a : ByteArray) : a.toList = lst a := Lib.toList_data a
theorem lst_inj {a b : ByteArray} (h : lst a = lst b) : a = b := by rw [← mk_lst a, h, mk_lst]
instance : DecidableEq ByteArray := fun a b => decidable_of_iff (lst a = lst b) ⟨lst_inj, fun h => by rw [h]⟩
theorem mem_lst (s : ByteArray) (l : List ByteArray) : lst s ∈ l.map lst ↔ s ∈ l := by
  rw [List.mem_map]
  exact ⟨fun ⟨a, ha, e⟩ => by rwa [← lst_inj e], fun h => ⟨s, h, rfl⟩⟩
instance (s : ByteArray) (l : List ByteArray) : Decidable (s ∈ l) := decidable_of_iff (lst s ∈ l.map lst) (mem_lst s l)
theorem tl_eq {a b : ByteArray} : a.toList = b.toList ↔ a = b := by
  rw [toList_lst, toList_lst]
  exact ⟨lst_inj, fun h => by rw [h]⟩
theorem tl_nil {a : ByteArray} : a.toList = ([] : List UInt8) ↔ a = ⟨#[]⟩ := by
  rw [toList_lst]
  exact ⟨fun h => lst_inj (h.trans rfl), fun h => by rw [h]; rfl⟩
theorem index_ev (l : List ByteArray) (s : ByteArray) (hl : l.length ≤ 8796093022208) : ∀ (d i : Nat), i + d = l.length → ∃ r : Int, Ev (fun k => slices_Index_string_string.l0 k l s (l.length : Int) (i : Int)) r ∧ (r ≥ 0 ↔ s ∈ l.drop i)
  | 0, i, hi => by
    refine ⟨-1, Ev_succ ?_, ?_⟩
    · simp only [slices_Index_string_string.l0, if_neg (show ¬ (i : Int) < (l.length : Int) by omega)]
      exact Ev.now _
    · rw [List.drop_of_length_le (by omega)]
      simp
  | d + 1, i, hi => by
    obtain ⟨r, e, hr⟩ := index_ev l s hl d (i + 1) (by omega)
    have hd : l.drop i = l[i]'(by omega) :: l.drop (i + 1) := List.drop_eq_getElem_cons (by omega)
    have hg : rdOf ByteArray.empty l (i : Int) = l[i]'(by omega) := by
      unfold rdOf
      rw [Int.toNat_natCast, List.getD_eq_getElem?_getD, List.getElem?_eq_getElem (by omega)]
      rfl
    by_cases h : s = l[i]'(by omega)
    · refine ⟨i, Ev_succ ?_, ?_⟩
      · simp only [slices_Index_string_string.l0, if_pos (show (i : Int) < (l.length : Int) by omega), if_pos (show (0 : Int) ≤ (i : Int) by omega), hg, if_pos (tl_eq.2 h)]
        exact Ev.now _
      · rw [hd]
        exact ⟨fun _ => by rw [← h]; exact List.mem_cons_self, fun _ => by omega⟩
    · refine ⟨r, Ev_succ ?_, ?_⟩
      · simp only [slices_Index_string_string.l0, if_pos (show (i : Int) < (l.length : Int) by omega), if_pos (show (0 : Int) ≤ (i : Int) by omega), hg, if_neg (fun hh => h (tl_eq.1 hh))]
        rw [w64 (x := (i : Int) + 1) (by omega) (by omega), show (i : Int) + 1 = ((i + 1 : Nat) : Int) by omega]
        exact e
      · rw [hr, hd, List.mem_cons]
        exact ⟨.inr, fun hh => hh.resolve_left h⟩
/-- What a wildcard allows. -/
def allowsP (h : Int) (n : ByteArray) (l : List ByteArray) (s : ByteArray) : Prop := if h = 1 then True else if h = 2 then (s ≠ ⟨#[]⟩ ∧ s ≠ n) else if h = 3 then s ∈ l else False
instance (h : Int) (n : ByteArray) (l : List ByteArray) (s : ByteArray) : Decidable (allowsP h n l s) := by unfold allowsP; infer_instance
theorem allows_ev (h : Int) (n : ByteArray) (l : List ByteArray) (p : Int) (s : ByteArray) (hl : l.length ≤ 8796093022208) : Ev (fun k => wild_Allows.f k h n l p s) (decide (allowsP h n l s)) := by
  unfold wild_Allows.f allowsP
  by_cases h1 : h = 1
  · simp only [if_pos h1, decide_true]
    exact Ev.now _
  by_cases h2 : h = 2
  · simp only [if_neg h1, if_pos h2]
    by_cases h0 : s = ⟨#[]⟩
    · simp only [if_pos (tl_nil.2 h0)]
      have : decide (s ≠ ⟨#[]⟩ ∧ s ≠ n) = false := decide_eq_false (fun hh => hh.1 h0)
      rw [this]
      exact Ev.now _
    · simp only [if_neg (fun hh => h0 (tl_nil.1 hh))]
      have : decide (s ≠ ⟨#[]⟩ ∧ s ≠ n) = (s.toList != n.toList) := by
        by_cases hn : s = n
        · rw [decide_eq_false (fun hh => hh.2 hn), hn, bne_self_eq_false]
        · rw [decide_eq_true ⟨h0, hn⟩]
          exact (bne_iff_ne.2 (fun hh => hn (tl_eq.1 hh))).symm
      rw [this]
      exact Ev.now _
  by_cases h3 : h = 3
  · simp only [if_neg h1, if_neg h2, if_pos h3]
    obtain ⟨r, e, hr⟩ := index_ev l s hl l.length 0 (by omega)
    rw [List.drop_zero] at hr
    have : decide (s ∈ l) = decide (r ≥ 0) := decide_eq_decide.2 hr.symm
    rw [this]
    unfold slices_Contains_string_string.f
    exact Ev.bind (Ev.bind (Ev.congr (f := fun k => slices_Index_string_string.l0 k l s (l.length : Int) ((0 : Nat) : Int)) (fun k => rfl) e) (Ev.now _)) (Ev.now _)
  · simp only [if_neg h1, if_neg h2, if_neg h3, decide_false]
    exact Ev.now _

end Go.Proofs.Ytfpedicgeepikaa.B
