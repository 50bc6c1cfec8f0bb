import Derived.Test.YtjhmpippcndloaaB10
import Derived.Test.YtjhmpippcndloaaPrx16
import Derived.WalkKit
import Derived.ProofKit
namespace Go.Proofs.Ytjhmpippcndloaa.B
open Go.RowKit Go.Proofs.Ytjhmpippcndloaa Go.Proofs.Ytjhmpippcndloaa.G Go.Proofs.Ytjhmpippcndloaa.Pr Go.Proofs.YtjhmpippcndloaaW.PrintWords Go.Proofs.YtjhmpippcndloaaW.PrintLast
set_option linter.unusedVariables false
set_option linter.unusedSimpArgs false
/-! ### SetNames: the escapes, the letters' own functions, the statement -/
def stL : List S24 := [⟨65, 90⟩, ⟨97, 122⟩, ⟨95, 95⟩, ⟨58, 58⟩, ⟨192, 214⟩, ⟨216, 246⟩, ⟨248, 55295⟩, ⟨57344, 65533⟩, ⟨65536, 1114111⟩]
def paL : List S24 := [⟨48, 57⟩, ⟨45, 46⟩, ⟨183, 183⟩]
def bWs : ByteArray := ⟨#[32, 9, 10, 13]⟩
def Ts : List S24 := ofL (lettersL bWs)
def Ti : List S24 := ofL stL
def Tc : List S24 := ofL (Ti ++ ofL paL)
def Td : List S24 := ofL [⟨48, 57⟩]
def Tp : List S24 := ofL ([] ++ ofL (lettersL bP))
def Tpz : List S24 := ofL (Tp ++ ofL lZ)
def Tpzc : List S24 := ofL (Tpz ++ ofL lC)
def Tw : List S24 := notL 0 Tpzc
theorem len_s : Ts.length ≤ 100 := Nat.le_trans (ofL_length _) (by decide)
theorem len_i : Ti.length ≤ 100 := Nat.le_trans (ofL_length _) (by decide)
theorem len_d : Td.length ≤ 100 := Nat.le_trans (ofL_length _) (by decide)
theorem len_c : Tc.length ≤ 200 := by
  have h1 := ofL_length (Ti ++ ofL paL)
  have h2 := ofL_length paL
  have h3 := len_i
  rw [List.length_append] at h1
  have h4 : paL.length = 3 := rfl
  unfold Tc
  omega
theorem len_p : Tp.length ≤ 100 := by
  have h1 := ofL_length ([] ++ ofL (lettersL bP))
  have h2 := ofL_length (lettersL bP)
  rw [List.nil_append] at h1
  have h4 : (lettersL bP).length ≤ 100 := by decide
  unfold Tp
  exact Nat.le_trans h1 (Nat.le_trans h2 h4)
theorem len_pz : Tpz.length ≤ 200 := by
  have h1 := ofL_length (Tp ++ ofL lZ)
  have h2 := ofL_length lZ
  have h3 := len_p
  rw [List.length_append] at h1
  have h4 : lZ.length = 2 := rfl
  unfold Tpz
  omega
theorem len_pzc : Tpzc.length ≤ 300 := by
  have h1 := ofL_length (Tpz ++ ofL lC)
  have h2 := ofL_length lC
  have h3 := len_pz
  rw [List.length_append] at h1
  have h4 : lC.length = 2 := rfl
  unfold Tpzc
  omega
theorem len_w : Tw.length ≤ 301 := by
  have h1 := notL_length Tpzc 0
  have h2 := len_pzc
  unfold Tw
  omega
theorem can_w : Canon Tw := not_canon (ofL_canon _)
/-! the set's side -/
theorem esc_s : Ev (fun k => set_Escape.f k 115) (Ts, true) := by
  refine Ev_succ ?_
  simp only [set_Escape.f, Int.reduceEq, reduceIte]
  exact Ev.bind (letters_ev bWs (by decide)) (Ev.now _)
theorem starts_ev : Ev (fun k => set_starts.f k) Ti := Ev.bind (of_ev stL (by decide)) (Ev.now _)
theorem esc_i : Ev (fun k => set_Escape.f k 105) (Ti, true) := by
  refine Ev_succ ?_
  simp only [set_Escape.f, Int.reduceEq, reduceIte]
  exact Ev.bind starts_ev (Ev.now _)
theorem esc_c : Ev (fun k => set_Escape.f k 99) (Tc, true) := by
  have h1 := ofL_length paL
  have h2 := len_i
  have h4 : paL.length = 3 := rfl
  refine Ev_succ ?_
  simp only [set_Escape.f, Int.reduceEq, reduceIte]
  refine Ev.bind (a := Tc) ?_ (Ev.now _)
  exact Ev.bind starts_ev (Ev.bind (of_ev paL (by decide)) (Ev.bind (union_ev Ti (ofL paL) (by omega) (by omega)) (Ev.now _)))
theorem esc_d' : Ev (fun k => set_Escape.f k 100) (Td, true) := by
  have := esc_d
  rw [show Td = [⟨48, 57⟩] from digits_of]
  exact this
theorem snot_ev (T : List S24) (c : Canon T) (hl : T.length ≤ 1000) : Ev (fun k => set_not.f k T true) (notL 0 T, true) := by
  unfold set_not.f
  simp only [if_true]
  exact Ev.bind (not_ev T c (by omega)) (Ev.now _)
theorem cat_set' (a : ByteArray) (n : List UInt8) (l : List S24) (h : a.toList = n) (hc : catL n = some l) : Ev (fun k => set_Category.f k a) (ofL l, true) := by
  have := cat_set a
  rw [h, hc] at this
  exact this
theorem cat_ref' (a : ByteArray) (n : List UInt8) (l : List S24) (h : a.toList = n) (hc : catL n = some l) : Ev (fun k => rubricref7_Category.f k a) ((ofL l).map up, true) := by
  have := cat_ref a
  rw [h, hc] at this
  exact this
theorem others_ev : Ev (fun k => set_others.f k) Tpzc := by
  have hp := ofL_length (lettersL bP)
  have hp' : (lettersL bP).length ≤ 100 := by decide
  have hz := ofL_length lZ
  have hz' : lZ.length = 2 := rfl
  have hc := ofL_length lC
  have hc' : lC.length = 2 := rfl
  have l1 := len_p
  have l2 := len_pz
  unfold set_others.f
  simp only [Option.bind_some, List.length_cons, List.length_nil]
  refine Ev_succ ?_
  simp only [set_others.l0, if_pos (show (0 : Int) < ((0 + 1 + 1 + 1 : Nat) : Int) by decide), if_pos (show (0 : Int) ≤ 0 by decide), List.length_cons, List.length_nil]
  refine Ev.bind (cat_set' ⟨#[80]⟩ [80] (lettersL bP) (toList_mk [80]) rfl) (Ev.bind (union_ev [] (ofL (lettersL bP)) (by simp) (by omega)) ?_)
  refine Ev_succ ?_
  simp only [set_others.l0, show wrap64 (0 + 1) = 1 by rw [w64 (by decide) (by decide)]; rfl, if_pos (show (1 : Int) < ((0 + 1 + 1 + 1 : Nat) : Int) by decide), if_pos (show (0 : Int) ≤ 1 by decide), List.length_cons, List.length_nil]
  refine Ev.bind (cat_set' ⟨#[90]⟩ [90] lZ (toList_mk [90]) rfl) (Ev.bind (union_ev Tp (ofL lZ) (by omega) (by omega)) ?_)
  refine Ev_succ ?_
  simp only [set_others.l0, show wrap64 (1 + 1) = 2 by rw [w64 (by decide) (by decide)]; rfl, if_pos (show (2 : Int) < ((0 + 1 + 1 + 1 : Nat) : Int) by decide), if_pos (show (0 : Int) ≤ 2 by decide), List.length_cons, List.length_nil]
  refine Ev.bind (cat_set' ⟨#[67]⟩ [67] lC (toList_mk [67]) rfl) (Ev.bind (union_ev Tpz (ofL lC) (by omega) (by omega)) ?_)
  refine Ev_succ ?_
  simp only [set_others.l0, show wrap64 (2 + 1) = 3 by rw [w64 (by decide) (by decide)]; rfl, if_neg (show ¬ (3 : Int) < ((0 + 1 + 1 + 1 : Nat) : Int) by decide)]
  exact Ev.now _
theorem esc_w : Ev (fun k => set_Escape.f k 119) (Tw, true) := by
  have := len_pzc
  refine Ev_succ ?_
  simp only [set_Escape.f, Int.reduceEq, reduceIte]
  exact Ev.bind others_ev (Ev.bind (snot_ev Tpzc (ofL_canon _) (by omega)) (Ev.now _))
theorem esc_up (a0 e : Int) (T : List S24) (c : Canon T) (hl : T.length ≤ 1000) (h : Ev (fun k => set_Escape.f k e) (T, true)) (hb : Go.bits .or .u8 a0 32 = e) : Ev (fun k => set_Escape.j0 k a0 true) (notL 0 T, true) := by
  refine Ev_succ ?_
  simp only [set_Escape.j0, if_true, hb]
  exact Ev.bind h (Ev.bind (snot_ev T c hl) (Ev.now _))
/-! the other side -/
theorem ref_not (T : List S24) (h : rubricref7_Set_Not.f 100 (T.map up) = some ((notL 0 T).map up)) : Ev (fun k => rubricref7_Set_Not.f k (T.map up)) ((notL 0 T).map up) := Ev.of (rubricref7_Set_Not.mono _) h
theorem rst_ev : rubricref7_starts.f = some [⟨58, 58⟩, ⟨65, 90⟩, ⟨95, 95⟩, ⟨97, 122⟩, ⟨192, 214⟩, ⟨216, 246⟩, ⟨248, 55295⟩, ⟨57344, 65533⟩, ⟨65536, 1114111⟩] := rfl
theorem r_s : Ev (fun k => rubricref7_Escape.f k 115) (Ts.map up, true) := by
  refine Ev_succ ?_
  simp only [rubricref7_Escape.f, Int.reduceEq, reduceIte]
  exact Ev.bind (ref_of _ (lettersL bWs) (by kernel_rfl)) (Ev.now _)
theorem r_i : Ev (fun k => rubricref7_Escape.f k 105) (Ti.map up, true) := by
  refine Ev_succ ?_
  simp only [rubricref7_Escape.f, Int.reduceEq, reduceIte, rst_ev, Option.bind_some]
  exact Ev.bind (ref_of _ stL (by kernel_rfl)) (Ev.now _)
theorem r_c : Ev (fun k => rubricref7_Escape.f k 99) (Tc.map up, true) := by
  refine Ev_succ ?_
  simp only [rubricref7_Escape.f, Int.reduceEq, reduceIte, rst_ev, Option.bind_some, List.length_cons, List.length_nil, Nat.reduceAdd, Nat.reduceLT]
  refine Ev.bind (Ev.of (rubricref7_Of.mono _) (k := 100) (r := Tc.map up) ?_) (Ev.now _)
  unfold Tc Ti
  simp only [ofL_calc]
  kernel_rfl
theorem r_d : Ev (fun k => rubricref7_Escape.f k 100) (Td.map up, true) := by
  refine Ev_succ ?_
  simp only [rubricref7_Escape.f, Int.reduceEq, reduceIte]
  exact Ev.bind (cat_ref' ⟨#[78, 100]⟩ [78, 100] [⟨48, 57⟩] (toList_mk [78, 100]) rfl) (Ev.now _)
theorem r_w : Ev (fun k => rubricref7_Escape.f k 119) (Tw.map up, true) := by
  have h1 : rubricref7_Union.f 100 ((ofL (lettersL bP)).map up) ((ofL lZ).map up) = some (Tpz.map up) := by
    unfold Tpz Tp
    simp only [ofL_calc]
    kernel_rfl
  have h2 : rubricref7_Union.f 100 (Tpz.map up) ((ofL lC).map up) = some (Tpzc.map up) := by
    unfold Tpzc Tpz Tp
    simp only [ofL_calc]
    kernel_rfl
  have h3 : rubricref7_Set_Not.f 100 (Tpzc.map up) = some ((notL 0 Tpzc).map up) := by
    unfold Tpzc Tpz Tp
    simp only [ofL_calc]
    kernel_rfl
  refine Ev_succ ?_
  simp only [rubricref7_Escape.f, Int.reduceEq, reduceIte]
  refine Ev.bind (cat_ref' ⟨#[80]⟩ [80] (lettersL bP) (toList_mk [80]) rfl) (Ev.bind (cat_ref' ⟨#[90]⟩ [90] lZ (toList_mk [90]) rfl) (Ev.bind (cat_ref' ⟨#[67]⟩ [67] lC (toList_mk [67]) rfl) ?_))
  exact Ev.bind (Ev.of (rubricref7_Union.mono _ _) h1) (Ev.bind (Ev.of (rubricref7_Union.mono _ _) h2) (Ev.bind (ref_not Tpzc h3) (Ev.now _)))
theorem r_up (a0 e : Int) (T : List S24) (h : Ev (fun k => rubricref7_Escape.f k e) (T.map up, true)) (hb : wrap64 (a0 + 32) = e) (hn : rubricref7_Set_Not.f 100 (T.map up) = some ((notL 0 T).map up)) : Ev (fun k => rubricref7_Escape.j0 k a0 true) ((notL 0 T).map up, true) := by
  refine Ev_succ ?_
  simp only [rubricref7_Escape.j0, if_true, hb]
  exact Ev.bind h (Ev.bind (ref_not T hn) (Ev.now _))
theorem n_s : rubricref7_Set_Not.f 100 (Ts.map up) = some ((notL 0 Ts).map up) := by unfold Ts; simp only [ofL_calc]; kernel_rfl
theorem n_i : rubricref7_Set_Not.f 100 (Ti.map up) = some ((notL 0 Ti).map up) := by unfold Ti; simp only [ofL_calc]; kernel_rfl
theorem n_c : rubricref7_Set_Not.f 100 (Tc.map up) = some ((notL 0 Tc).map up) := by unfold Tc Ti; simp only [ofL_calc]; kernel_rfl
theorem n_d : rubricref7_Set_Not.f 100 (Td.map up) = some ((notL 0 Td).map up) := by unfold Td; simp only [ofL_calc]; kernel_rfl
theorem n_w : rubricref7_Set_Not.f 100 (Tw.map up) = some ((notL 0 Tw).map up) := by unfold Tw Tpzc Tpz Tp; simp only [ofL_calc]; kernel_rfl
/-! both sides at any byte -/
def Both (a0 : Int) : Prop := ∃ (T : List S24) (b : Bool), Canon T ∧ T.length ≤ 1000 ∧ Ev (fun k => set_Escape.f k a0) (T, b) ∧ Ev (fun k => rubricref7_Escape.f k a0) (T.map up, b)
theorem both_up (a0 e : Int) (T : List S24) (c : Canon T) (hl : T.length ≤ 900) (h : Ev (fun k => set_Escape.f k e) (T, true)) (hb : Go.bits .or .u8 a0 32 = e) (hr : Ev (fun k => rubricref7_Escape.f k e) (T.map up, true)) (hw : wrap64 (a0 + 32) = e) (hn : rubricref7_Set_Not.f 100 (T.map up) = some ((notL 0 T).map up))
    (hs1 : ∀ k, set_Escape.f (k + 1) a0 = set_Escape.j0 k a0 true) (hs2 : ∀ k, rubricref7_Escape.f (k + 1) a0 = rubricref7_Escape.j0 k a0 true) : Both a0 :=
  ⟨notL 0 T, true, not_canon c, by have := notL_length T 0; omega, Ev.step hs1 (esc_up a0 e T c (by omega) h hb), Ev.step hs2 (r_up a0 e T hr hw hn)⟩
theorem both_all (a0 : Int) : Both a0 := by
  have l1 := len_s
  have l2 := len_i
  have l3 := len_c
  have l4 := len_d
  have l5 := len_w
  by_cases h1 : a0 = 115
  · subst h1; exact ⟨Ts, true, ofL_canon _, by omega, esc_s, r_s⟩
  by_cases h2 : a0 = 105
  · subst h2; exact ⟨Ti, true, ofL_canon _, by omega, esc_i, r_i⟩
  by_cases h3 : a0 = 99
  · subst h3; exact ⟨Tc, true, ofL_canon _, by omega, esc_c, r_c⟩
  by_cases h4 : a0 = 100
  · subst h4; exact ⟨Td, true, ofL_canon _, by omega, esc_d', r_d⟩
  by_cases h5 : a0 = 119
  · subst h5; exact ⟨Tw, true, can_w, by omega, esc_w, r_w⟩
  by_cases h6 : a0 = 83
  · subst h6
    exact both_up 83 115 Ts (ofL_canon _) (by omega) esc_s (by kernel_rfl) r_s (by kernel_rfl) n_s (fun k => by simp only [set_Escape.f, Int.reduceEq, reduceIte, beq_self_eq_true]) (fun k => by simp only [rubricref7_Escape.f, Int.reduceEq, reduceIte, beq_self_eq_true])
  by_cases h7 : a0 = 73
  · subst h7
    exact both_up 73 105 Ti (ofL_canon _) (by omega) esc_i (by kernel_rfl) r_i (by kernel_rfl) n_i (fun k => by simp only [set_Escape.f, Int.reduceEq, reduceIte, beq_self_eq_true]) (fun k => by simp only [rubricref7_Escape.f, Int.reduceEq, reduceIte, beq_self_eq_true])
  by_cases h8 : a0 = 67
  · subst h8
    exact both_up 67 99 Tc (ofL_canon _) (by omega) esc_c (by kernel_rfl) r_c (by kernel_rfl) n_c (fun k => by simp only [set_Escape.f, Int.reduceEq, reduceIte, beq_self_eq_true]) (fun k => by simp only [rubricref7_Escape.f, Int.reduceEq, reduceIte, beq_self_eq_true])
  by_cases h9 : a0 = 68
  · subst h9
    exact both_up 68 100 Td (ofL_canon _) (by omega) esc_d' (by kernel_rfl) r_d (by kernel_rfl) n_d (fun k => by simp only [set_Escape.f, Int.reduceEq, reduceIte, beq_self_eq_true]) (fun k => by simp only [rubricref7_Escape.f, Int.reduceEq, reduceIte, beq_self_eq_true])
  by_cases h10 : a0 = 87
  · subst h10
    exact both_up 87 119 Tw can_w (by omega) esc_w (by kernel_rfl) r_w (by kernel_rfl) n_w (fun k => by simp only [set_Escape.f, Int.reduceEq, reduceIte, beq_self_eq_true]) (fun k => by simp only [rubricref7_Escape.f, Int.reduceEq, reduceIte, beq_self_eq_true])
  have e : (a0 == 87) = false := beq_eq_false_iff_ne.2 h10
  refine ⟨[], false, Canon.nil, by simp, ?_, ?_⟩
  · refine Ev_succ ?_
    simp only [set_Escape.f, if_neg h1, if_neg h2, if_neg h3, if_neg h4, if_neg h5, if_neg h6, if_neg h7, if_neg h8, if_neg h9, e]
    refine Ev_succ ?_
    simp only [set_Escape.j0, Bool.false_eq_true, if_false]
    exact Ev.now _
  · refine Ev_succ ?_
    simp only [rubricref7_Escape.f, if_neg h1, if_neg h2, if_neg h3, if_neg h4, if_neg h5, if_neg h6, if_neg h7, if_neg h8, if_neg h9, e]
    refine Ev_succ ?_
    simp only [rubricref7_Escape.j0, Bool.false_eq_true, if_false]
    exact Ev.now _
/-! the letters' own functions -/
theorem char_val (r : Int) : ∃ b, char_Char.f r = some b ∧ (b = true ↔ (r = 9 ∨ r = 10 ∨ r = 13 ∨ (32 ≤ r ∧ r ≤ 55295) ∨ (57344 ≤ r ∧ r ≤ 65533) ∨ (65536 ≤ r ∧ r ≤ 1114111))) := by
  unfold char_Char.f
  repeat' split
  all_goals refine ⟨_, rfl, ?_⟩
  all_goals simp only [beq_iff_eq, decide_eq_true_iff, Bool.false_eq_true, true_iff, false_iff]
  all_goals omega
def startP (r : Int) : Prop := (65 ≤ r ∧ r ≤ 90) ∨ (97 ≤ r ∧ r ≤ 122) ∨ r = 95 ∨ r = 58 ∨ (192 ≤ r ∧ r ≤ 214) ∨ (216 ≤ r ∧ r ≤ 246) ∨ (248 ≤ r ∧ r ≤ 55295) ∨ (57344 ≤ r ∧ r ≤ 65533) ∨ (65536 ≤ r ∧ r ≤ 1114111)
theorem has_i (r : Int) : hasP Ti r ↔ startP r := by
  unfold Ti stL startP
  rw [ofL_has]
  simp only [has_cons, has_nil, or_false]
  unfold topL
  omega
theorem has_c (r : Int) : hasP Tc r ↔ startP r ∨ (48 ≤ r ∧ r ≤ 57) ∨ r = 45 ∨ r = 46 ∨ r = 183 := by
  unfold Tc
  rw [ofL_has, has_append, has_i, ofL_has]
  unfold paL startP
  simp only [has_cons, has_nil, or_false]
  unfold topL
  omega
theorem has_s (r : Int) : hasP Ts r ↔ r = 32 ∨ r = 9 ∨ r = 10 ∨ r = 13 := by
  unfold Ts
  rw [ofL_has, show lettersL bWs = [⟨32, 32⟩, ⟨9, 9⟩, ⟨10, 10⟩, ⟨13, 13⟩] from rfl]
  simp only [has_cons, has_nil, or_false]
  unfold topL
  omega
theorem start_val (r : Int) : ∃ b, Ev (fun k => char_Start.f k r) b ∧ (b = true ↔ startP r) := by
  obtain ⟨c, hc, hcb⟩ := char_val r
  have h : ∃ b, (∀ k, char_Start.f (k + 2) r = some b) ∧ (b = true ↔ startP r) := by
    unfold startP
    simp only [char_Start.f, char_Start.j0, char_Start.j1, hc, Option.bind_some, decide_eq_true_eq, Bool.false_eq_true, if_false]
    repeat' split
    all_goals refine ⟨_, fun _ => rfl, ?_⟩
    all_goals simp only [hcb, Bool.false_eq_true, true_iff, false_iff]
    all_goals omega
  obtain ⟨b, hb, hp⟩ := h
  exact ⟨b, Ev_succ (Ev_succ (Ev.congr hb (Ev.now _))), hp⟩
theorem part_val (r : Int) : ∃ b, Ev (fun k => char_Part.f k r) b ∧ (b = true ↔ startP r ∨ (48 ≤ r ∧ r ≤ 57) ∨ r = 45 ∨ r = 46 ∨ r = 183) := by
  obtain ⟨s, es, hs⟩ := start_val r
  unfold char_Part.f
  cases s with
  | true =>
    refine ⟨true, Ev.bind es ?_, ?_⟩
    · simp only [if_true]
      exact Ev.now _
    · simp only [hs.1 rfl, true_or]
  | false =>
    have hn : ¬ startP r := fun h => Bool.false_ne_true (hs.2 h)
    have h : ∃ b, (if r ≥ 48 then (if r ≤ 57 then some true else (if r = 45 then some true else (if r = 46 then some true else some (r == 183)))) else (if r = 45 then some true else (if r = 46 then some true else some (r == 183)))) = some b ∧ (b = true ↔ (48 ≤ r ∧ r ≤ 57) ∨ r = 45 ∨ r = 46 ∨ r = 183) := by
      repeat' split
      all_goals refine ⟨_, rfl, ?_⟩
      all_goals simp only [beq_iff_eq, true_iff]
      all_goals omega
    obtain ⟨b, hb, hp⟩ := h
    refine ⟨b, Ev.bind es ?_, ?_⟩
    · simp only [Bool.false_eq_true, if_false, hb]
      exact Ev.now _
    · rw [hp]
      simp only [hn, false_or]
theorem white_val (r : Int) : ∃ b, char_White.f r = some b ∧ (b = true ↔ r = 32 ∨ r = 9 ∨ r = 10 ∨ r = 13) := by
  unfold char_White.f
  repeat' split
  all_goals refine ⟨_, rfl, ?_⟩
  all_goals simp only [beq_iff_eq, true_iff]
  all_goals omega
theorem as_one {p q : Prop} [Decidable p] {b : Bool} (h : p ↔ q) (hb : b = true ↔ q) : (decide p == b) = true := by
  rw [beq_iff_eq, Bool.eq_iff_iff, decide_eq_true_iff]
  exact h.trans hb.symm
theorem names_j0 (x2 : Int) : Ev (fun k => rubriclaw7_SetNames.j0 k x2 false) true := by
  have l1 := len_s
  have l2 := len_i
  have l3 := len_c
  obtain ⟨b1, v1, p1⟩ := start_val x2
  obtain ⟨b2, v2, p2⟩ := part_val x2
  obtain ⟨b3, v3, p3⟩ := white_val x2
  have e1 := as_one (has_i x2) p1
  have e2 := as_one (has_c x2) p2
  have e3 := as_one (has_s x2) p3
  refine Ev_succ ?_
  simp only [rubriclaw7_SetNames.j0, Bool.false_eq_true, if_false]
  refine Ev.bind esc_i (Ev.bind esc_c (Ev.bind esc_s ?_))
  simp only [has_ev Ti x2 (by omega), has_ev Tc x2 (by omega), has_ev Ts x2 (by omega), Option.bind_some, v3]
  refine Ev.bind v1 ?_
  simp only [e1, if_true]
  refine Ev.bind v2 ?_
  simp only [e2, if_true, e3]
  exact Ev.now _
theorem names_ev (a0 : Int) (a1 : ByteArray) (a2 : Int) (h0 : 0 ≤ a0) (h1 : a0 ≤ 255) : Ev (fun k => rubriclaw7_SetNames.f k a0 a1 a2) true := by
  obtain ⟨T, b, cT, lT, eS, eR⟩ := both_all a0
  have cS := cat_set a1
  have cR := cat_ref a1
  have cC := setR_canon (catL a1.toList)
  have lC := catL_length a1.toList
  unfold refR at cR
  generalize setR (catL a1.toList) = p at cS cR cC lC
  obtain ⟨U, b2⟩ := p
  simp only at cR cC lC
  unfold rubriclaw7_SetNames.f
  refine Ev.bind known_ev ?_
  simp only [if_true]
  by_cases hs : (a1.size : Int) > 200
  · simp only [if_pos hs]; exact Ev.now _
  simp only [if_neg hs, w64 (show -9223372036854775808 ≤ a0 by omega) (show a0 ≤ 9223372036854775807 by omega)]
  refine Ev.bind eS (Ev.bind eR (Ev.bind cS (Ev.bind cR ?_)))
  simp only [bne_self_eq_false, Bool.false_eq_true, if_false]
  refine Ev.bind (conv_ev T cT lT) (Ev.bind (sameU _ (by rw [List.length_map]; exact lT)) ?_)
  simp only [if_true]
  refine Ev.bind (conv_ev U cC lC) (Ev.bind (sameU _ (by rw [List.length_map]; exact lC)) ?_)
  simp only [Bool.not_true]
  exact names_j0 a2

end Go.Proofs.Ytjhmpippcndloaa.B
