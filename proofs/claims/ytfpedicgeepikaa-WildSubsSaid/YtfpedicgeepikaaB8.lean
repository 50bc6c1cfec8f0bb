import Derived.Test.YtfpedicgeepikaaB7
namespace Go.Proofs.Ytfpedicgeepikaa.B
open Go.RowKit Go.Proofs.Ytfpedicgeepikaa Go.Proofs.Ytfpedicgeepikaa.G Go.Proofs.Ytfpedicgeepikaa.Pr Go.Proofs.YtfpedicgeepikaaW.PrintWords Go.Proofs.YtfpedicgeepikaaW.PrintLast
set_option linter.unusedVariables false
set_option linter.unusedSimpArgs false
def tgtW : ByteArray := ⟨#[35, 35, 116, 97, 114, 103, 101, 116, 78, 97, 109, 101, 115, 112, 97, 99, 101]⟩
def locW : ByteArray := ⟨#[35, 35, 108, 111, 99, 97, 108]⟩
theorem tl_is {a : ByteArray} (l : List UInt8) : a.toList = l ↔ a = mkB l := by
  rw [toList_lst]
  exact ⟨fun h => by rw [← h, mk_lst], fun h => by rw [h, lst_mk]⟩
theorem hp_false (w : ByteArray) (hw : (lst w).head? ≠ some 35) : strings_HasPrefix.f w (⟨#[35, 35]⟩ : ByteArray) = some false := by
  unfold strings_HasPrefix.f stringslite_HasPrefix.f
  have h2 : ((⟨#[35, 35]⟩ : ByteArray).size : Int) = 2 := rfl
  rw [h2]
  by_cases h : (w.size : Int) ≥ 2
  · rw [if_pos h, if_pos (by decide), if_pos (by omega)]
    simp only [Option.bind_some]
    congr 1
    rw [beq_eq_false_iff_ne]
    intro e
    rw [toList_lst, toList_lst] at e
    have e2 : lst (w.extract 0 (2 : Int).toNat) = (lst w).take 2 := by
      unfold lst
      rw [ByteArray.data_extract, Array.toList_extract, List.extract_eq_take_drop]
      simp
    rw [e2] at e
    apply hw
    cases hl : lst w with
    | nil => rw [hl] at e; cases e
    | cons b t =>
      rw [hl] at e
      simp only [List.take_succ_cons] at e
      have : b = 35 := (List.cons.inj (e.trans (show lst (⟨#[35, 35]⟩ : ByteArray) = [35, 35] from rfl))).1
      rw [this]
      rfl
  · rw [if_neg h]
    rfl
/-- What a word of a wildcard's text names. -/
def mapW (t w : ByteArray) : ByteArray := if w = tgtW then t else if w = locW then ⟨#[]⟩ else w
def GoodW (w : ByteArray) : Prop := w = tgtW ∨ w = locW ∨ (lst w).head? ≠ some 35
theorem parse_l0 (t : ByteArray) (p : Int) (ws : List ByteArray) (hws : ws.length ≤ 1048576) (hg : ∀ w, w ∈ ws → GoodW w) :
    ∀ (d i : Nat) (out : List ByteArray), i + d = ws.length → out.length + d ≤ 2097152 → Ev (fun k => wild_Parse.l0 k t p out ws (ws.length : Int) (i : Int)) (3, ⟨#[]⟩, setL (out ++ (ws.drop i).map (mapW t)), p, 0)
  | 0, i, out, hi, ho => by
    rw [List.drop_of_length_le (by omega), List.map_nil, List.append_nil]
    have ht : wild_these.f out p = some (3, ⟨#[]⟩, setL out, p) := by
      unfold wild_these.f
      rw [if_pos (by omega)]
      rfl
    refine Ev_succ ?_
    simp only [wild_Parse.l0, if_neg (show ¬ (i : Int) < (ws.length : Int) by omega), ht, Option.bind_some]
    exact Ev.now _
  | d + 1, i, out, hi, ho => by
    have hd : ws.drop i = ws[i]'(by omega) :: ws.drop (i + 1) := List.drop_eq_getElem_cons (by omega)
    have hr : rdOf ByteArray.empty ws (i : Int) = ws[i]'(by omega) := by
      unfold rdOf
      rw [Int.toNat_natCast, List.getD_eq_getElem?_getD, List.getElem?_eq_getElem (by omega)]
      rfl
    have hw : wrap64 ((i : Int) + 1) = ((i + 1 : Nat) : Int) := by rw [w64 (x := (i : Int) + 1) (by omega) (by omega)]; omega
    have gw := hg _ (List.getElem_mem (show i < ws.length by omega))
    refine Ev_succ ?_
    simp only [wild_Parse.l0, if_pos (show (i : Int) < (ws.length : Int) by omega), if_pos (show (0 : Int) ≤ (i : Int) by omega), hr, hw, if_pos (show out.length < 8796093022208 by omega)]
    rw [hd, List.map_cons]
    generalize ws[i]'(by omega) = x at gw ⊢
    have ih := parse_l0 t p ws hws hg d (i + 1) (out ++ [mapW t x]) (by omega) (by simp only [List.length_append, List.length_singleton]; omega)
    rw [List.append_assoc, List.singleton_append] at ih
    by_cases h1 : x = tgtW
    · simp only [if_pos ((tl_is _).2 (h1.trans rfl))]
      have e : mapW t x = t := by unfold mapW; rw [if_pos h1]
      rw [e] at ih ⊢
      exact ih
    · simp only [if_neg (fun hh => h1 (((tl_is _).1 hh).trans rfl))]
      by_cases h2 : x = locW
      · simp only [if_pos ((tl_is _).2 (h2.trans rfl))]
        have e : mapW t x = ⟨#[]⟩ := by unfold mapW; rw [if_neg h1, if_pos h2]
        rw [e] at ih ⊢
        exact ih
      · simp only [if_neg (fun hh => h2 (((tl_is _).1 hh).trans rfl)), hp_false x ((gw.resolve_left h1).resolve_left h2), Option.bind_some, Bool.false_eq_true, if_false]
        have e : mapW t x = x := by unfold mapW; rw [if_neg h1, if_neg h2]
        rw [e] at ih ⊢
        exact ih

end Go.Proofs.Ytfpedicgeepikaa.B
