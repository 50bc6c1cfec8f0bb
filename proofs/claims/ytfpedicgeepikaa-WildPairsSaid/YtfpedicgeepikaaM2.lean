import Derived.Test.YtfpedicgeepikaaM1
import Derived.Test.YtfpedicgeepikaaPrx3
import Derived.Test.YtfpedicgeepikaaPrx4
namespace Go.Proofs.Ytfpedicgeepikaa.B
open Go.RowKit Go.Proofs.Ytfpedicgeepikaa Go.Proofs.Ytfpedicgeepikaa.G Go.Proofs.Ytfpedicgeepikaa.Pr Go.Proofs.YtfpedicgeepikaaW.PrintWords Go.Proofs.YtfpedicgeepikaaW.PrintLast
set_option linter.unusedVariables false
set_option linter.unusedSimpArgs false
def othW : ByteArray := ⟨#[35, 35, 111, 116, 104, 101, 114]⟩
theorem procSkip : Ev (fun k => wild_process.f k (⟨#[115, 107, 105, 112]⟩ : ByteArray)) 3 := by
  have n0 : ¬ (⟨#[115, 107, 105, 112]⟩ : ByteArray).toList = ([] : List UInt8) := fun h => by rw [toList_lst] at h; cases h
  have n1 : ((⟨#[115, 107, 105, 112]⟩ : ByteArray).toList == ([115, 116, 114, 105, 99, 116] : List UInt8)) = false := by rw [toList_lst]; decide
  have n2 : ¬ (⟨#[115, 107, 105, 112]⟩ : ByteArray).toList = ([108, 97, 120] : List UInt8) := fun h => by rw [toList_lst] at h; revert h; decide
  have n3 : (⟨#[115, 107, 105, 112]⟩ : ByteArray).toList = ([115, 107, 105, 112] : List UInt8) := by rw [toList_lst]; rfl
  refine Ev.congr (f := fun k => wild_process.j0 k ⟨#[115, 107, 105, 112]⟩ false) (fun k => ?_) (Ev_succ ?_)
  · unfold wild_process.f
    rw [if_neg n0, n1]
  · simp only [wild_process.j0, Bool.false_eq_true, if_false, if_neg n2, if_pos n3]
    exact Ev.now _
theorem procLax : Ev (fun k => wild_process.f k (⟨#[108, 97, 120]⟩ : ByteArray)) 2 := by
  have n0 : ¬ (⟨#[108, 97, 120]⟩ : ByteArray).toList = ([] : List UInt8) := fun h => by rw [toList_lst] at h; cases h
  have n1 : ((⟨#[108, 97, 120]⟩ : ByteArray).toList == ([115, 116, 114, 105, 99, 116] : List UInt8)) = false := by rw [toList_lst]; decide
  have n2 : (⟨#[108, 97, 120]⟩ : ByteArray).toList = ([108, 97, 120] : List UInt8) := by rw [toList_lst]; rfl
  refine Ev.congr (f := fun k => wild_process.j0 k ⟨#[108, 97, 120]⟩ false) (fun k => ?_) (Ev_succ ?_)
  · unfold wild_process.f
    rw [if_neg n0, n1]
  · simp only [wild_process.j0, Bool.false_eq_true, if_false, if_pos n2]
    exact Ev.now _
theorem parse_other (t how : ByteArray) (p : Int) (hp : Ev (fun k => wild_process.f k how) p) (h0 : p ≠ 0) : Ev (fun k => wild_Parse.f k othW t how) (2, t, [], p, 0) := by
  have hW := words_ev othW (by decide)
  have hw : (wrd [] (lst othW)).map mkB = [othW] := rfl
  rw [hw] at hW
  have e0 : rdOf ByteArray.empty [othW] 0 = othW := rfl
  have n1 : (othW.toList == ([35, 35, 97, 110, 121] : List UInt8)) = false := by rw [toList_lst]; decide
  have n2 : othW.toList = ([35, 35, 111, 116, 104, 101, 114] : List UInt8) := by rw [toList_lst]; rfl
  unfold wild_Parse.f
  refine Ev.bind hp ?_
  simp only [if_neg h0]
  refine Ev.bind hW ?_
  simp only [List.length_singleton, e0, n1]
  refine Ev_succ ?_
  simp only [wild_Parse.j0, List.length_singleton, e0, Bool.false_eq_true, if_false, if_pos n2]
  exact Ev.now _

end Go.Proofs.Ytfpedicgeepikaa.B

namespace Go.Proofs.Ytfpedicgeepikaa.B
open Go.RowKit Go.Proofs.Ytfpedicgeepikaa Go.Proofs.Ytfpedicgeepikaa.G Go.Proofs.Ytfpedicgeepikaa.Pr Go.Proofs.YtfpedicgeepikaaW.PrintWords Go.Proofs.YtfpedicgeepikaaW.PrintLast
set_option linter.unusedVariables false
set_option linter.unusedSimpArgs false
theorem compact_const {α : Type} [Inhabited α] [DecidableEq α] (x : α) (zs : List α) (h : ∀ y, y ∈ zs → y = x) (h0 : zs ≠ []) : Lib.compact zs = [x] := by
  have hl : 0 < zs.length := List.length_pos_iff.2 h0
  have hget : ∀ j, j < zs.length → zs.toArray[j]! = x := fun j hj => by
    rw [getElem!_pos _ j (by simpa using hj)]
    exact h _ (by simp)
  have key : ∀ m, m < zs.length → Lib.compactUpTo zs.toArray (m + 1) = [x] := by
    intro m
    induction m with
    | zero =>
      intro hm
      rw [Lib.compactUpTo_succ, if_pos (Lib.keeps_lt_one _ 0 (by omega)), hget 0 hm]
      rfl
    | succ m ih =>
      intro hm
      rw [Lib.compactUpTo_succ, ih (by omega), if_neg (by
        rw [Lib.keeps_neg (by omega) (by rw [hget _ hm, hget _ (by omega)])]
        decide)]
      rfl
  unfold Lib.compact
  have := key (zs.length - 1) (by omega)
  rwa [show zs.length - 1 + 1 = zs.length by omega] at this
theorem setL_const (x : ByteArray) (l : List ByteArray) (h : ∀ y, y ∈ l → y = x) (h0 : l ≠ []) : setL l = [x] := by
  unfold setL compL
  have hs : ∀ y, y ∈ (sortL l).map lst → y = lst x := fun y hy => by
    obtain ⟨a, ha, rfl⟩ := List.mem_map.1 hy
    rw [h a ((mem_sortL l a).1 ha)]
  have hne : (sortL l).map lst ≠ [] := by
    intro e
    have := congrArg List.length e
    rw [List.length_map, sortL_length] at this
    exact h0 (List.eq_nil_of_length_eq_zero this)
  rw [compact_const (lst x) _ hs hne]
  simp [mk_lst]

end Go.Proofs.Ytfpedicgeepikaa.B

namespace Go.Proofs.Ytfpedicgeepikaa.B
open Go.RowKit Go.Proofs.Ytfpedicgeepikaa Go.Proofs.Ytfpedicgeepikaa.G Go.Proofs.Ytfpedicgeepikaa.Pr Go.Proofs.YtfpedicgeepikaaW.PrintWords Go.Proofs.YtfpedicgeepikaaW.PrintLast
set_option linter.unusedVariables false
set_option linter.unusedSimpArgs false
def tW : ByteArray := ⟨#[116]⟩
def uW : ByteArray := ⟨#[117]⟩
theorem ba_ne {a b : ByteArray} (h : lst a ≠ lst b) : a ≠ b := fun e => h (by rw [e])
theorem mapW_self (t w : ByteArray) (h1 : lst w ≠ lst tgtW) (h2 : lst w ≠ lst locW) : mapW t w = w := by
  unfold mapW
  rw [if_neg (fun e => h1 (by rw [e])), if_neg (fun e => h2 (by rw [e]))]
theorem known_b : Ev (fun k => wild_Parse.f k (⟨#[116, 32, 117, 32, 35, 35, 108, 111, 99, 97, 108]⟩ : ByteArray) tW (⟨#[]⟩ : ByteArray)) (3, ⟨#[]⟩, setL [tW, uW, ⟨#[]⟩], 1, 0) := by
  have h := parse_these (⟨#[116, 32, 117, 32, 35, 35, 108, 111, 99, 97, 108]⟩ : ByteArray) tW (by decide) [tW, uW, locW] rfl (by decide) (by simp) (fun w e => by simp at e) (fun w hw => by
    simp only [List.mem_cons, List.not_mem_nil, or_false] at hw
    rcases hw with rfl | rfl | rfl
    · exact .inr (.inr (by decide))
    · exact .inr (.inr (by decide))
    · exact .inr (.inl rfl))
  have e1 : mapW tW tW = tW := mapW_self _ _ (by decide) (by decide)
  have e2 : mapW tW uW = uW := mapW_self _ _ (by decide) (by decide)
  have e3 : mapW tW locW = ⟨#[]⟩ := by unfold mapW; rw [if_neg (ba_ne (by decide)), if_pos rfl]
  simp only [List.map_cons, List.map_nil, e1, e2, e3] at h
  exact h

end Go.Proofs.Ytfpedicgeepikaa.B

namespace Go.Proofs.Ytfpedicgeepikaa.B
open Go.RowKit Go.Proofs.Ytfpedicgeepikaa Go.Proofs.Ytfpedicgeepikaa.G Go.Proofs.Ytfpedicgeepikaa.Pr Go.Proofs.YtfpedicgeepikaaW.PrintWords Go.Proofs.YtfpedicgeepikaaW.PrintLast
set_option linter.unusedVariables false
set_option linter.unusedSimpArgs false
theorem known_both : bothP 2 tW [] 2 3 ⟨#[]⟩ (setL [tW, uW, ⟨#[]⟩]) = (3, ⟨#[]⟩, [uW], 2, true) := by
  have hin : ∀ s, s ∈ ((specL tW [] ⟨#[]⟩ (setL [tW, uW, ⟨#[]⟩])).filter fun s => decide (allowsP 2 tW [] s) && decide (allowsP 3 ⟨#[]⟩ (setL [tW, uW, ⟨#[]⟩]) s)) ↔ s = uW := by
    intro s
    rw [List.mem_filter, mem_specL, Bool.and_eq_true, decide_eq_true_iff, decide_eq_true_iff]
    simp only [allowsP, mem_setL, List.mem_cons, List.not_mem_nil, or_false, false_or]
    constructor
    · rintro ⟨_, h1, h2⟩
      simp at h1 h2
      rcases h2 with h2 | h2 | h2
      · exact absurd h2 h1.2
      · exact h2
      · exact absurd h2 h1.1
    · rintro rfl
      refine ⟨by simp, ?_, by simp⟩
      simp
      exact ⟨ba_ne (by decide), ba_ne (by decide)⟩
  have hu := (hin uW).2 rfl
  unfold bothP sayP
  rw [if_neg (by decide), setL_const uW _ (fun y hy => (hin y).1 hy) (fun e => by rw [e] at hu; cases hu)]

end Go.Proofs.Ytfpedicgeepikaa.B

namespace Go.Proofs.Ytfpedicgeepikaa.B
open Go.RowKit Go.Proofs.Ytfpedicgeepikaa Go.Proofs.Ytfpedicgeepikaa.G Go.Proofs.Ytfpedicgeepikaa.Pr Go.Proofs.YtfpedicgeepikaaW.PrintWords Go.Proofs.YtfpedicgeepikaaW.PrintLast
set_option linter.unusedVariables false
set_option linter.unusedSimpArgs false
theorem known_ev : Ev (fun k => rubriclaw14_known.f k) true := by
  have hb := both_ev 2 tW [] 2 3 ⟨#[]⟩ (setL [tW, uW, ⟨#[]⟩]) 1 (by decide) (Nat.le_trans (setL_length _) (by decide))
  rw [known_both] at hb
  have a1 := allows_ev 2 tW [] 2 tW (by decide)
  have a2 := allows_ev 2 tW [] 2 ⟨#[]⟩ (by decide)
  have a3 := allows_ev 2 tW [] 2 uW (by decide)
  have d1 : decide (allowsP 2 tW [] tW) = false := by simp [allowsP]
  have d2 : decide (allowsP 2 tW [] ⟨#[]⟩) = false := by simp [allowsP]
  have d3 : decide (allowsP 2 tW [] uW) = true := by
    simp [allowsP]
    exact ⟨ba_ne (by decide), ba_ne (by decide)⟩
  rw [d1] at a1
  rw [d2] at a2
  rw [d3] at a3
  have hs := sub_ev 3 ⟨#[]⟩ [uW] 2 2 tW [] 2 (by decide) (by decide)
  have ds : subP 3 ⟨#[]⟩ [uW] 2 tW [] = true := by
    unfold subP
    rw [Bool.and_eq_true]
    refine ⟨by decide, List.all_eq_true.2 fun s _ => ?_⟩
    by_cases e : s = uW
    · subst e
      rw [d3]
      simp
    · simp [allowsP, e]
  rw [ds] at hs
  unfold rubriclaw14_known.f
  refine Ev.bind (parse_other tW ⟨#[108, 97, 120]⟩ 2 procLax (by decide)) (Ev.bind known_b (Ev.bind hb ?_))
  simp only [show wrap64 (0 + 0) = 0 from w64 (x := 0 + 0) (by decide) (by decide), if_true]
  refine Ev.bind a1 ?_
  simp only [Bool.false_eq_true, if_false]
  refine Ev.bind a2 ?_
  simp only [Bool.false_eq_true, if_false]
  refine Ev.bind a3 ?_
  simp only [if_true, List.length_singleton]
  exact Ev.bind hs (Ev.now _)

end Go.Proofs.Ytfpedicgeepikaa.B

namespace Go.Proofs.Ytfpedicgeepikaa.B
open Go.RowKit Go.Proofs.Ytfpedicgeepikaa Go.Proofs.Ytfpedicgeepikaa.G Go.Proofs.Ytfpedicgeepikaa.Pr Go.Proofs.YtfpedicgeepikaaW.PrintWords Go.Proofs.YtfpedicgeepikaaW.PrintLast
set_option linter.unusedVariables false
set_option linter.unusedSimpArgs false
theorem ll_irrefl (a : List UInt8) : ¬ a < a := List.lt_irrefl a
theorem ll_trans {a b c : List UInt8} (h : a < b) (h2 : b < c) : a < c := List.lt_trans h h2
theorem ll_lt_of_le_of_ne {a b : List UInt8} (h : a ≤ b) (hn : a ≠ b) : a < b := by
  rcases List.le_iff_lt_or_eq.1 h with h | h
  · exact h
  · exact absurd h hn
theorem ll_le_trans {a b c : List UInt8} (h : a ≤ b) (h2 : b ≤ c) : a ≤ c := List.le_trans h h2
theorem ll_lt_of_le_of_lt {a b c : List UInt8} (h : a ≤ b) (h2 : b < c) : a < c := by
  rcases List.le_iff_lt_or_eq.1 h with h | h
  · exact ll_trans h h2
  · rw [h]; exact h2
theorem upTo_sorted (d : Array (List UInt8)) (hs : ∀ i j, i < j → j < d.size → d[i]! ≤ d[j]!) : ∀ m, m ≤ d.size → (Lib.compactUpTo d m).Pairwise (· < ·)
  | 0, _ => by simp [Lib.compactUpTo]
  | m + 1, hm => by
    rw [Lib.compactUpTo_succ]
    split
    · rename_i hk
      rw [List.pairwise_append]
      refine ⟨upTo_sorted d hs m (by omega), List.pairwise_singleton _ _, fun a ha b hb => ?_⟩
      rw [List.mem_singleton.1 hb]
      obtain ⟨j, hj, rfl⟩ := (mem_upTo d a m).1 ha
      have hne : d[m - 1]! ≠ d[m]! := by
        intro e
        rw [Lib.keeps_neg (by omega) e.symm] at hk
        cases hk
      have h1 : d[m - 1]! < d[m]! := ll_lt_of_le_of_ne (hs (m - 1) m (by omega) (by omega)) hne
      by_cases hj2 : j = m - 1
      · rw [hj2]; exact h1
      · exact ll_lt_of_le_of_lt (hs j (m - 1) (by omega) (by omega)) h1
    · rw [List.append_nil]
      exact upTo_sorted d hs m (by omega)
theorem compact_sorted (zs : List (List UInt8)) (h : zs.Pairwise (· ≤ ·)) : (Lib.compact zs).Pairwise (· < ·) := by
  unfold Lib.compact
  refine upTo_sorted _ (fun i j hij hj => ?_) _ (by simp)
  have hj' : j < zs.length := by simpa using hj
  rw [getElem!_pos _ i (by omega), getElem!_pos _ j hj]
  have := List.pairwise_iff_getElem.1 h i j (by omega) hj' hij
  simpa using this
theorem setL_sorted (l : List ByteArray) : ((setL l).map lst).Pairwise (· < ·) := by
  unfold setL compL
  rw [List.map_map]
  have e : (lst ∘ mkB) = id := by funext x; exact lst_mk x
  rw [e, List.map_id]
  apply compact_sorted
  unfold sortL
  rw [List.map_map, e, List.map_id]
  have := List.pairwise_mergeSort (le := fun x y : List UInt8 => decide (x ≤ y)) (fun a b c h1 h2 => by
    simp only [decide_eq_true_iff] at *
    exact ll_le_trans h1 h2) (fun a b => by
    simp only [Bool.or_eq_true, decide_eq_true_iff]
    exact List.le_total a b) (l.map lst)
  exact this.imp (fun h => by simpa using h)
theorem sorted_ext : ∀ (a b : List (List UInt8)), a.Pairwise (· < ·) → b.Pairwise (· < ·) → (∀ x, x ∈ a ↔ x ∈ b) → a = b
  | [], [], _, _, _ => rfl
  | [], y :: ys, _, _, h => absurd ((h y).2 List.mem_cons_self) (by simp)
  | x :: xs, [], _, _, h => absurd ((h x).1 List.mem_cons_self) (by simp)
  | x :: xs, y :: ys, ha, hb, h => by
    rw [List.pairwise_cons] at ha hb
    have hxy : x = y := by
      rcases List.mem_cons.1 ((h x).1 List.mem_cons_self) with e | h1
      · exact e
      · rcases List.mem_cons.1 ((h y).2 List.mem_cons_self) with e | h2
        · exact e.symm
        · exact absurd (ll_trans (hb.1 x h1) (ha.1 y h2)) (ll_irrefl _)
    subst hxy
    rw [sorted_ext xs ys ha.2 hb.2 (fun z => ⟨fun hz => by
      rcases List.mem_cons.1 ((h z).1 (List.mem_cons_of_mem _ hz)) with e | h1
      · rw [e] at hz
        exact absurd (ha.1 x hz) (ll_irrefl _)
      · exact h1, fun hz => by
      rcases List.mem_cons.1 ((h z).2 (List.mem_cons_of_mem _ hz)) with e | h1
      · rw [e] at hz
        exact absurd (hb.1 x hz) (ll_irrefl _)
      · exact h1⟩)]
/-- A strictly rising row. -/
def Rising (l : List ByteArray) : Prop := (l.map lst).Pairwise (· < ·)
theorem map_lst_inj : ∀ {a b : List ByteArray}, a.map lst = b.map lst → a = b
  | [], [], _ => rfl
  | [], _ :: _, h => by cases h
  | _ :: _, [], h => by cases h
  | x :: xs, y :: ys, h => by
    rw [List.map_cons, List.map_cons] at h
    rw [lst_inj (List.cons.inj h).1, map_lst_inj (List.cons.inj h).2]
theorem rising_ext {a b : List ByteArray} (ha : Rising a) (hb : Rising b) (h : ∀ x, x ∈ a ↔ x ∈ b) : a = b := by
  refine map_lst_inj (sorted_ext _ _ ha hb (fun x => ?_))
  rw [← lst_mk x, mem_lst, mem_lst]
  exact h _
theorem rising_setL (l : List ByteArray) : Rising (setL l) := setL_sorted l
theorem rising_filter {l : List ByteArray} (h : Rising l) (p : ByteArray → Bool) : Rising (l.filter p) := by
  unfold Rising at *
  exact h.sublist (List.filter_sublist.map lst)
theorem setL_of_rising {l : List ByteArray} (h : Rising l) : setL l = l := rising_ext (rising_setL l) h (mem_setL l)

end Go.Proofs.Ytfpedicgeepikaa.B

namespace Go.Proofs.Ytfpedicgeepikaa.B
open Go.RowKit Go.Proofs.Ytfpedicgeepikaa Go.Proofs.Ytfpedicgeepikaa.G Go.Proofs.Ytfpedicgeepikaa.Pr Go.Proofs.YtfpedicgeepikaaW.PrintWords Go.Proofs.YtfpedicgeepikaaW.PrintLast
set_option linter.unusedVariables false
set_option linter.unusedSimpArgs false
/-! ### what wildcards allow: Sub, Both, Union by their sets -/
theorem long_word : ∀ L : List ByteArray, ∃ m, ∀ x, x ∈ L → (lst x).length ≤ m
  | [] => ⟨0, fun _ h => by cases h⟩
  | x :: L => by
    obtain ⟨m, hm⟩ := long_word L
    refine ⟨max (lst x).length m, fun y hy => ?_⟩
    rcases List.mem_cons.1 hy with rfl | h
    · exact Nat.le_max_left _ _
    · exact Nat.le_trans (hm y h) (Nat.le_max_right _ _)
theorem fresh_word (L : List ByteArray) : ∃ s : ByteArray, s ∉ L := by
  obtain ⟨m, hm⟩ := long_word L
  refine ⟨mkB (List.replicate (m + 1) 97), fun h => ?_⟩
  have := hm _ h
  rw [lst_mk, List.length_replicate] at this
  omega
theorem allows_far {h : Int} {n : ByteArray} {l : List ByteArray} {s : ByteArray} (h0 : s ≠ ⟨#[]⟩) (h1 : s ∉ l) (h2 : s ≠ n) : allowsP h n l s ↔ h = 1 ∨ h = 2 := by
  unfold allowsP
  by_cases e1 : h = 1
  · simp [e1]
  · by_cases e2 : h = 2
    · simp [e1, e2, h0, h2]
    · simp [e1, e2, h1]
theorem allows_not_special {h : Int} {n : ByteArray} {l : List ByteArray} {h' : Int} {n' : ByteArray} {l' : List ByteArray} {s : ByteArray} (hs : s ∉ specL n l n' l') :
    (allowsP h n l s ↔ h = 1 ∨ h = 2) ∧ (allowsP h' n' l' s ↔ h' = 1 ∨ h' = 2) := by
  rw [mem_specL] at hs
  simp only [not_or] at hs
  exact ⟨allows_far hs.1 hs.2.1 hs.2.2.1, allows_far hs.1 hs.2.2.2.1 hs.2.2.2.2⟩
theorem sub_iff (h : Int) (n : ByteArray) (l : List ByteArray) (h' : Int) (n' : ByteArray) (l' : List ByteArray) : subP h n l h' n' l' = true ↔ ∀ s, allowsP h n l s → allowsP h' n' l' s := by
  unfold subP
  rw [Bool.and_eq_true, List.all_eq_true, Bool.not_eq_true', Bool.and_eq_false_iff, decide_eq_false_iff_not, Bool.not_eq_false', decide_eq_true_iff]
  constructor
  · rintro ⟨h1, h2⟩ s hs
    by_cases hsp : s ∈ specL n l n' l'
    · have := h2 s hsp
      rw [Bool.or_eq_true, Bool.not_eq_true', decide_eq_false_iff_not, decide_eq_true_iff] at this
      exact this.resolve_left (fun hh => hh hs)
    · obtain ⟨a1, a2⟩ := allows_not_special (h := h) (h' := h') hsp
      exact a2.2 (h1.resolve_left (fun hh => hh (a1.1 hs)))
  · intro H
    refine ⟨?_, fun s _ => ?_⟩
    · by_cases hm : h = 1 ∨ h = 2
      · right
        obtain ⟨s, hs⟩ := fresh_word (specL n l n' l')
        obtain ⟨a1, a2⟩ := allows_not_special (h := h) (h' := h') hs
        exact a2.1 (H s (a1.2 hm))
      · exact .inl hm
    · rw [Bool.or_eq_true, Bool.not_eq_true', decide_eq_false_iff_not, decide_eq_true_iff]
      by_cases hs : allowsP h n l s
      · exact .inr (H s hs)
      · exact .inl hs
theorem allows1 (n : ByteArray) (l : List ByteArray) (s : ByteArray) : allowsP 1 n l s ↔ True := by unfold allowsP; rw [if_pos rfl]
theorem allows2 (n : ByteArray) (l : List ByteArray) (s : ByteArray) : allowsP 2 n l s ↔ s ≠ ⟨#[]⟩ ∧ s ≠ n := by unfold allowsP; rw [if_neg (by decide), if_pos rfl]
theorem allows3' (n : ByteArray) (l : List ByteArray) (s : ByteArray) : allowsP 3 n l s ↔ s ∈ l := by unfold allowsP; rw [if_neg (by decide), if_neg (by decide), if_pos rfl]
theorem say_sem (others : Bool) (p : Int) (S : List ByteArray) (f : ByteArray → Bool) (h0 : (⟨#[]⟩ : ByteArray) ∈ S) (h1 : others = false → ∀ s, f s = true → s ∈ S) (h2 : others = true → ∀ s, s ∉ S → f s = true)
    (hok : (sayP others p (S.filter f) (S.filter fun s => !f s)).2.2.2.2 = true) (s : ByteArray) :
    allowsP (sayP others p (S.filter f) (S.filter fun s => !f s)).1 (sayP others p (S.filter f) (S.filter fun s => !f s)).2.1 (sayP others p (S.filter f) (S.filter fun s => !f s)).2.2.1 s ↔ f s = true := by
  cases others with
  | false =>
    simp only [sayP, Bool.false_eq_true, if_false]
    rw [allows3', mem_setL, List.mem_filter]
    exact ⟨fun h => h.2, fun h => ⟨h1 rfl s h, h⟩⟩
  | true =>
    have hm : ∀ x, f x = true ↔ x ∉ S.filter fun s => !f s := by
      intro x
      rw [List.mem_filter]
      by_cases hx : x ∈ S
      · cases hf : f x <;> simp [hx]
      · simp [hx, h2 rfl x hx]
    have hsub : ∀ x, x ∈ (S.filter fun s => !f s) → x ∈ S := fun x hx => (List.mem_filter.1 hx).1
    rw [hm s]
    generalize (S.filter fun s => !f s) = outs at hok hm hsub ⊢
    unfold sayP at hok ⊢
    simp only [if_true] at hok ⊢
    have e0 : (⟨#[]⟩ : ByteArray) ∈ S := h0
    match outs with
    | [] => simp only; rw [allows1]; simp
    | o :: os =>
      by_cases ho : o = ⟨#[]⟩
      · subst ho
        simp only [if_true] at hok ⊢
        match os with
        | [] => simp only; rw [allows2]; simp
        | [o2] => simp only; rw [allows2]; simp
        | _ :: _ :: _ => simp only at hok; cases hok
      · simp only [if_neg ho] at hok
        cases hok
theorem both_sem (h : Int) (n : ByteArray) (l : List ByteArray) (p : Int) (h' : Int) (n' : ByteArray) (l' : List ByteArray) (hok : (bothP h n l p h' n' l').2.2.2.2 = true) (s : ByteArray) :
    allowsP (bothP h n l p h' n' l').1 (bothP h n l p h' n' l').2.1 (bothP h n l p h' n' l').2.2.1 s ↔ allowsP h n l s ∧ allowsP h' n' l' s := by
  unfold bothP at hok ⊢
  rw [say_sem _ p _ _ ((mem_specL _ _ _ _ _).2 (.inl rfl)) (fun ho s hf => ?_) (fun ho s hs => ?_) hok s, Bool.and_eq_true, decide_eq_true_iff, decide_eq_true_iff]
  · rw [Bool.and_eq_true, decide_eq_true_iff, decide_eq_true_iff] at hf
    refine Decidable.byContradiction fun hs => ?_
    obtain ⟨a1, a2⟩ := allows_not_special (h := h) (h' := h') hs
    rw [decide_eq_true (a1.1 hf.1), decide_eq_true (a2.1 hf.2)] at ho
    cases ho
  · rw [Bool.and_eq_true, decide_eq_true_iff, decide_eq_true_iff] at ho
    obtain ⟨a1, a2⟩ := allows_not_special (h := h) (h' := h') hs
    rw [decide_eq_true (a1.2 ho.1), decide_eq_true (a2.2 ho.2)]
    rfl
theorem union_sem (h : Int) (n : ByteArray) (l : List ByteArray) (p : Int) (h' : Int) (n' : ByteArray) (l' : List ByteArray) (hok : (unionP h n l p h' n' l').2.2.2.2 = true) (s : ByteArray) :
    allowsP (unionP h n l p h' n' l').1 (unionP h n l p h' n' l').2.1 (unionP h n l p h' n' l').2.2.1 s ↔ allowsP h n l s ∨ allowsP h' n' l' s := by
  unfold unionP at hok ⊢
  rw [say_sem _ p _ _ ((mem_specL _ _ _ _ _).2 (.inl rfl)) (fun ho s hf => ?_) (fun ho s hs => ?_) hok s, Bool.or_eq_true, decide_eq_true_iff, decide_eq_true_iff]
  · rw [Bool.or_eq_true, decide_eq_true_iff, decide_eq_true_iff] at hf
    refine Decidable.byContradiction fun hs => ?_
    obtain ⟨a1, a2⟩ := allows_not_special (h := h) (h' := h') hs
    rw [a1, a2] at hf
    rw [Bool.or_eq_false_iff, decide_eq_false_iff_not, decide_eq_false_iff_not] at ho
    exact hf.elim ho.1 ho.2
  · rw [Bool.or_eq_true, decide_eq_true_iff, decide_eq_true_iff] at ho
    obtain ⟨a1, a2⟩ := allows_not_special (h := h) (h' := h') hs
    rw [Bool.or_eq_true, decide_eq_true_iff, decide_eq_true_iff, a1, a2]
    exact ho

end Go.Proofs.Ytfpedicgeepikaa.B

namespace Go.Proofs.Ytfpedicgeepikaa.B
open Go.RowKit Go.Proofs.Ytfpedicgeepikaa Go.Proofs.Ytfpedicgeepikaa.G Go.Proofs.Ytfpedicgeepikaa.Pr Go.Proofs.YtfpedicgeepikaaW.PrintWords Go.Proofs.YtfpedicgeepikaaW.PrintLast
set_option linter.unusedVariables false
set_option linter.unusedSimpArgs false
/-! ### Few, Right, WildSubs -/
theorem few_l0 (h : Int) (n : ByteArray) (l : List ByteArray) (p : Int) : ∀ (d i : Nat), i + d = l.length → ∃ b, Ev (fun k => rubriclaw14_Few.l0 k (i : Int) h n l p) b ∧ (b = true → l.length ≤ 30)
  | 0, i, hi => by
    by_cases hl : (l.length : Int) ≤ 30
    · refine ⟨decide ((n.size : Int) ≤ 300), Ev_succ (Ev_succ ?_), fun _ => by omega⟩
      simp only [rubriclaw14_Few.l0, if_neg (show ¬ (i : Int) < (l.length : Int) by omega), rubriclaw14_Few.j1, Bool.false_eq_true, if_false, if_pos hl]
      exact Ev.now _
    · refine ⟨false, Ev_succ (Ev_succ ?_), fun e => by cases e⟩
      simp only [rubriclaw14_Few.l0, if_neg (show ¬ (i : Int) < (l.length : Int) by omega), rubriclaw14_Few.j1, Bool.false_eq_true, if_false, if_neg hl]
      exact Ev.now _
  | d + 1, i, hi => by
    by_cases h30 : (i : Int) ≤ 30
    · by_cases hs : ((rdOf ByteArray.empty l (i : Int)).size : Int) > 300
      · refine ⟨false, Ev_succ (Ev_succ ?_), fun e => by cases e⟩
        simp only [rubriclaw14_Few.l0, if_pos (show (i : Int) < (l.length : Int) by omega), rubriclaw14_Few.j1, decide_eq_true h30, if_true, if_pos (show (0 : Int) ≤ (i : Int) by omega), if_pos hs]
        exact Ev.now _
      · obtain ⟨b, hb, hb2⟩ := few_l0 h n l p d (i + 1) (by omega)
        refine ⟨b, Ev_succ (Ev_succ ?_), hb2⟩
        have hw : wrap64 ((i : Int) + 1) = ((i + 1 : Nat) : Int) := by rw [w64 (x := (i : Int) + 1) (by omega) (by omega)]; omega
        simp only [rubriclaw14_Few.l0, if_pos (show (i : Int) < (l.length : Int) by omega), rubriclaw14_Few.j1, decide_eq_true h30, if_true, if_pos (show (0 : Int) ≤ (i : Int) by omega), if_neg hs, hw]
        exact hb
    · refine ⟨false, Ev_succ (Ev_succ ?_), fun e => by cases e⟩
      simp only [rubriclaw14_Few.l0, if_pos (show (i : Int) < (l.length : Int) by omega), rubriclaw14_Few.j1, decide_eq_false h30, Bool.false_eq_true, if_false, if_neg (show ¬ (l.length : Int) ≤ 30 by omega)]
      exact Ev.now _
theorem few_ev (h : Int) (n : ByteArray) (l : List ByteArray) (p : Int) : ∃ b, Ev (fun k => rubriclaw14_Few.f k h n l p) b ∧ (b = true → l.length ≤ 30) := few_l0 h n l p l.length 0 (by omega)
theorem rdOf_get {l : List ByteArray} {i : Nat} (hi : i < l.length) : rdOf ByteArray.empty l (i : Int) = l[i] := by
  unfold rdOf
  rw [Int.toNat_natCast, List.getD_eq_getElem?_getD, List.getElem?_eq_getElem hi]
  rfl
theorem equal_l0 (a b : List ByteArray) (ha : a.length ≤ 1048576) (hab : a.length = b.length) : ∀ (d i : Nat), i + d = a.length → Ev (fun k => slices_Equal_string_string.l0 k a b (a.length : Int) (i : Int)) (decide (a.drop i = b.drop i))
  | 0, i, hi => by
    rw [List.drop_of_length_le (by omega), List.drop_of_length_le (by omega)]
    refine Ev_succ ?_
    simp only [slices_Equal_string_string.l0, if_neg (show ¬ (i : Int) < (a.length : Int) by omega), decide_true]
    exact Ev.now _
  | d + 1, i, hi => by
    have hw : wrap64 ((i : Int) + 1) = ((i + 1 : Nat) : Int) := by rw [w64 (x := (i : Int) + 1) (by omega) (by omega)]; omega
    have ih := equal_l0 a b ha hab d (i + 1) (by omega)
    refine Ev_succ ?_
    simp only [slices_Equal_string_string.l0, if_pos (show (i : Int) < (a.length : Int) by omega), if_pos (show (0 : Int) ≤ (i : Int) by omega), if_pos (show (i : Int) < (b.length : Int) by omega), rdOf_get (show i < a.length by omega), rdOf_get (show i < b.length by omega), hw]
    have da : a.drop i = a[i]'(by omega) :: a.drop (i + 1) := List.drop_eq_getElem_cons (by omega)
    have db : b.drop i = b[i]'(by omega) :: b.drop (i + 1) := List.drop_eq_getElem_cons (by omega)
    by_cases e : a[i]'(by omega) = b[i]'(by omega)
    · simp only [if_pos (tl_eq.2 e)]
      have : decide (a.drop i = b.drop i) = decide (a.drop (i + 1) = b.drop (i + 1)) := decide_eq_decide.2 (by
        rw [da, db, e]
        exact ⟨fun h => (List.cons.inj h).2, fun h => by rw [h]⟩)
      rw [this]
      exact ih
    · simp only [if_neg (fun hh => e (tl_eq.1 hh))]
      have : decide (a.drop i = b.drop i) = false := decide_eq_false (fun hh => by
        rw [da, db] at hh
        exact e (List.cons.inj hh).1)
      rw [this]
      exact Ev.now _
theorem equal_ev (a b : List ByteArray) (ha : a.length ≤ 1048576) : Ev (fun k => slices_Equal_string_string.f k a b) (decide (a = b)) := by
  unfold slices_Equal_string_string.f
  by_cases hl : (a.length : Int) = (b.length : Int)
  · simp only [if_pos hl]
    exact equal_l0 a b ha (by omega) a.length 0 (by omega)
  · simp only [if_neg hl]
    rw [decide_eq_false (fun e => hl (by rw [e]))]
    exact Ev.now _
/-- May a wildcard be? -/
def rightP (h : Int) (n : ByteArray) (l : List ByteArray) (p : Int) : Prop := (1 ≤ p ∧ p ≤ 3) ∧ ((h = 1 ∧ n = ⟨#[]⟩ ∧ l = []) ∨ (h = 2 ∧ l = []) ∨ (h = 3 ∧ n = ⟨#[]⟩ ∧ setL l = l))
instance (h : Int) (n : ByteArray) (l : List ByteArray) (p : Int) : Decidable (rightP h n l p) := by unfold rightP; infer_instance
theorem right_ev (h : Int) (n : ByteArray) (l : List ByteArray) (p : Int) (hl : l.length ≤ 1048576) : Ev (fun k => wild_Right.f k h n l p) (decide (rightP h n l p)) := by
  unfold wild_Right.f
  have done : ∀ b : Bool, (b = true ↔ rightP h n l p) → Ev (fun _ : Nat => some b) (decide (rightP h n l p)) := fun b hb => by
    have : decide (rightP h n l p) = b := by rw [Bool.eq_iff_iff, decide_eq_true_iff, hb]
    rw [this]
    exact Ev.now _
  by_cases p1 : p < 1
  · simp only [if_pos p1]
    refine Ev_succ ?_
    simp only [wild_Right.j0, if_true]
    exact done false ⟨(fun e => by cases e), fun e => by unfold rightP at e; omega⟩
  · simp only [if_neg p1]
    refine Ev_succ ?_
    by_cases p3 : p > 3
    · simp only [wild_Right.j0, decide_eq_true p3, if_true]
      exact done false ⟨(fun e => by cases e), fun e => by unfold rightP at e; omega⟩
    · simp only [wild_Right.j0, decide_eq_false p3, Bool.false_eq_true, if_false]
      have hlen : ((l.length : Int) == 0) = true ↔ l = [] := by
        rw [beq_iff_eq]
        exact ⟨fun e => List.eq_nil_of_length_eq_zero (by omega), fun e => by rw [e]; rfl⟩
      by_cases h1 : h = 1
      · simp only [if_pos h1]
        by_cases hn : n = ⟨#[]⟩
        · simp only [if_pos (tl_nil.2 hn)]
          refine done _ ?_
          rw [hlen]
          unfold rightP
          constructor
          · exact fun e => ⟨⟨by omega, by omega⟩, .inl ⟨h1, hn, e⟩⟩
          · rintro ⟨_, (⟨_, _, e⟩ | ⟨e, _⟩ | ⟨e, _⟩)⟩
            · exact e
            · omega
            · omega
        · simp only [if_neg (fun hh => hn (tl_nil.1 hh))]
          refine done _ ⟨(fun e => by cases e), fun e => ?_⟩
          unfold rightP at e
          rcases e with ⟨_, (⟨_, e, _⟩ | ⟨e, _⟩ | ⟨e, _⟩)⟩
          · exact absurd e hn
          · omega
          · omega
      · simp only [if_neg h1]
        by_cases h2 : h = 2
        · simp only [if_pos h2]
          refine done _ ?_
          rw [hlen]
          unfold rightP
          constructor
          · exact fun e => ⟨⟨by omega, by omega⟩, .inr (.inl ⟨h2, e⟩)⟩
          · rintro ⟨_, (⟨e, _, _⟩ | ⟨_, e⟩ | ⟨e, _⟩)⟩
            · omega
            · exact e
            · omega
        · simp only [if_neg h2]
          by_cases h3 : h = 3
          · simp only [if_pos h3]
            by_cases hn : n = ⟨#[]⟩
            · simp only [if_pos (tl_nil.2 hn)]
              have ht : wild_these.f l 0 = some (3, ⟨#[]⟩, setL l, 0) := by
                unfold wild_these.f
                rw [if_pos (by omega)]
                rfl
              simp only [ht, Option.bind_some]
              have he := equal_ev (setL l) l (Nat.le_trans (setL_length l) hl)
              have e : decide (rightP h n l p) = decide (setL l = l) := by
                rw [Bool.eq_iff_iff, decide_eq_true_iff, decide_eq_true_iff]
                unfold rightP
                constructor
                · rintro ⟨_, (⟨e, _, _⟩ | ⟨e, _⟩ | ⟨_, _, e⟩)⟩
                  · omega
                  · omega
                  · exact e
                · exact fun e => ⟨⟨by omega, by omega⟩, .inr (.inr ⟨h3, hn, e⟩)⟩
              rw [e]
              exact Ev.bind he (Ev.now _)
            · simp only [if_neg (fun hh => hn (tl_nil.1 hh))]
              refine done _ ⟨(fun e => by cases e), fun e => ?_⟩
              unfold rightP at e
              rcases e with ⟨_, (⟨e, _, _⟩ | ⟨e, _⟩ | ⟨_, e, _⟩)⟩
              · omega
              · omega
              · exact absurd e hn
          · simp only [if_neg h3]
            refine done _ ⟨(fun e => by cases e), fun e => ?_⟩
            unfold rightP at e
            rcases e with ⟨_, (⟨e, _, _⟩ | ⟨e, _⟩ | ⟨e, _⟩)⟩ <;> omega
theorem say_len (o : Bool) (p : Int) (ins outs : List ByteArray) : (sayP o p ins outs).2.2.1.length ≤ ins.length := by
  unfold sayP
  cases o with
  | false => simpa using setL_length ins
  | true =>
    simp only [if_true]
    match outs with
    | [] => simp
    | o :: os =>
      simp only
      split
      · split <;> simp
      · simp
theorem both_len (h : Int) (n : ByteArray) (l : List ByteArray) (p : Int) (h' : Int) (n' : ByteArray) (l' : List ByteArray) : (bothP h n l p h' n' l').2.2.1.length ≤ l.length + l'.length + 3 := by
  unfold bothP
  exact Nat.le_trans (say_len _ _ _ _) (Nat.le_trans (List.length_filter_le _ _) (specL_length _ _ _ _))
theorem union_len (h : Int) (n : ByteArray) (l : List ByteArray) (p : Int) (h' : Int) (n' : ByteArray) (l' : List ByteArray) : (unionP h n l p h' n' l').2.2.1.length ≤ l.length + l'.length + 3 := by
  unfold unionP
  exact Nat.le_trans (say_len _ _ _ _) (Nat.le_trans (List.length_filter_le _ _) (specL_length _ _ _ _))

end Go.Proofs.Ytfpedicgeepikaa.B
