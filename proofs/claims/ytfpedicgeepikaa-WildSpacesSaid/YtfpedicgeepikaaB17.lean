import Derived.Test.YtfpedicgeepikaaB16
import Derived.Test.YtfpedicgeepikaaPrx5
namespace Go.Proofs.Ytfpedicgeepikaa.B
open Go.RowKit Go.Proofs.Ytfpedicgeepikaa Go.Proofs.Ytfpedicgeepikaa.G Go.Proofs.Ytfpedicgeepikaa.Pr Go.Proofs.YtfpedicgeepikaaW.PrintWords Go.Proofs.YtfpedicgeepikaaW.PrintLast
set_option linter.unusedVariables false
set_option linter.unusedSimpArgs false
/-! ### WildSpaces -/
theorem lst_append (a b : ByteArray) : lst (a ++ b) = lst a ++ lst b := by simp [lst]
theorem lst_length (a : ByteArray) : (lst a).length = a.size := by simp [lst]
theorem mkB_append (a b : List UInt8) : mkB a ++ mkB b = mkB (a ++ b) := lst_inj (by rw [lst_append, lst_mk, lst_mk, lst_mk])
theorem mkB_size (a : List UInt8) : (mkB a).size = a.length := by rw [← lst_length, lst_mk]
theorem tmod26 (x : Int) (h0 : 0 ≤ x) : Int.tmod x 26 = ((x.toNat % 26 : Nat) : Int) := by
  rw [Int.tmod_eq_emod_of_nonneg h0]
  omega
theorem str_let (x : Int) (h0 : 0 ≤ x) : strOfNums ([(97 + (Int.tmod x 26)) % 256] : List Int) = mkB [UInt8.ofNat (97 + x.toNat % 26)] := by
  rw [tmod26 x h0]
  unfold strOfNums mkB
  rw [show ((97 + ((x.toNat % 26 : Nat) : Int)) % 256) = ((97 + x.toNat % 26 : Nat) : Int) by omega]
  rfl
theorem eq26 (x y : Int) (hx : 0 ≤ x) (hy : 0 ≤ y) : ((Int.tmod x 26) == (Int.tmod y 26)) = (x.toNat % 26 == y.toNat % 26) := by
  rw [tmod26 x hx, tmod26 y hy, Bool.eq_iff_iff, beq_iff_eq, beq_iff_eq]
  omega
def inB (l : List Nat) (m : Nat) : Bool := l.any fun n => n % 26 == m % 26
theorem inB_iff (l : List Nat) (m : Nat) : inB l m = true ↔ ∃ n, n ∈ l ∧ n % 26 = m % 26 := by
  unfold inB
  rw [List.any_eq_true]
  simp only [beq_iff_eq]
theorem txtL_append (a b : List (List UInt8)) : txtL (a ++ b) = txtL a ++ txtL b := by simp [txtL]
theorem txt_len (l : List Nat) : (txtL (l.map letW)).length = 3 * l.length := by
  induction l with
  | nil => rfl
  | cons n l ih =>
    have e : txtL ((n :: l).map letW) = 32 :: letW n ++ txtL (l.map letW) := by simp [txtL]
    rw [e, List.length_append, ih]
    simp only [letW, List.length_cons, List.length_nil]
    omega
theorem allows3 (S : List ByteArray) (s : ByteArray) : allowsP 3 ⟨#[]⟩ (setL S) s ↔ s ∈ S := by
  unfold allowsP
  rw [if_neg (by decide), if_neg (by decide), if_pos rfl, mem_setL]
theorem spL_len (l : List Nat) (a1 a2 : Bool) : (spL l a1 a2).length ≤ l.length + 2 := by
  unfold spL
  rw [List.length_append, List.length_append, List.length_map]
  cases a1 <;> cases a2 <;> simp
theorem fin_ev (l : List Nat) (hl : l.length ≤ 20) (a1 a2 : Bool) (a3 : Int) (h3 : 0 ≤ a3) : Ev (fun k => rubriclaw14_WildSpaces.j2 k a1 a2 a3 (mkB (txtL (wsL l a1 a2))) (inB l a3.toNat)) true := by
  refine Ev_succ ?_
  simp only [rubriclaw14_WildSpaces.j2]
  by_cases h0 : wsL l a1 a2 = []
  · rw [h0]
    have e : (mkB (txtL ([] : List (List UInt8)))).toList = ([] : List UInt8) := (tl_is _).2 rfl
    simp only [if_pos e]
    exact Ev.now _
  · have hsz : (txtL (wsL l a1 a2)).length ≤ 3 * l.length + 26 := by
      unfold wsL
      rw [txtL_append, txtL_append, List.length_append, List.length_append, txt_len]
      cases a1 <;> cases a2 <;> simp [txtL, lst, locW, tgtW] <;> omega
    have hne : ¬ (mkB (txtL (wsL l a1 a2))).toList = ([] : List UInt8) := by
      intro e
      rw [toList_lst, lst_mk] at e
      cases hw : wsL l a1 a2 with
      | nil => exact h0 hw
      | cons w ws => rw [hw] at e; simp [txtL] at e
    have hwl : ((wsL l a1 a2).map mkB).length ≤ 1048576 := by
      rw [List.length_map]
      unfold wsL
      rw [List.length_append, List.length_append, List.length_map]
      cases a1 <;> cases a2 <;> simp <;> omega
    have hP := parse_these (mkB (txtL (wsL l a1 a2))) tW (by rw [mkB_size]; omega) ((wsL l a1 a2).map mkB) (by rw [lst_mk, wrd_txt _ _ (wsL_good l a1 a2)]; simp) hwl (by simpa using h0) (one_wsL l a1 a2) (good_wsL l a1 a2)
    rw [map_wsL] at hP
    have hO := parse_other tW ⟨#[115, 107, 105, 112]⟩ 3 procSkip (by decide)
    have hS : (setL (spL l a1 a2)).length ≤ 1048576 := by
      have := setL_length (spL l a1 a2)
      have := spL_len l a1 a2
      omega
    have hU := union_ev 3 ⟨#[]⟩ (setL (spL l a1 a2)) 1 2 tW [] 3 hS (by decide)
    rw [un_spaces] at hU
    have al : ∀ s, Ev (fun k => wild_Allows.f k 3 ⟨#[]⟩ (setL (spL l a1 a2)) 1 s) (decide (s ∈ spL l a1 a2)) := fun s => by
      have := allows_ev 3 ⟨#[]⟩ (setL (spL l a1 a2)) 1 s (by omega)
      rwa [decide_eq_decide.2 (allows3 (spL l a1 a2) s)] at this
    have alv : Ev (fun k => wild_Allows.f k 2 tW [] 3 vW) true := by
      have := allows_ev 2 tW [] 3 vW (by decide)
      rwa [decide_eq_true (by unfold allowsP; rw [if_neg (by decide), if_pos rfl]; exact ⟨ba_ne (by decide), ba_ne (by decide)⟩)] at this
    have a_let := al (mkB (letW a3.toNat))
    rw [show decide (mkB (letW a3.toNat) ∈ spL l a1 a2) = inB l a3.toNat by
      rw [Bool.eq_iff_iff, decide_eq_true_iff, spL_let, inB_iff]] at a_let
    have a_e := al ⟨#[]⟩
    rw [show decide ((⟨#[]⟩ : ByteArray) ∈ spL l a1 a2) = a1 by rw [Bool.eq_iff_iff, decide_eq_true_iff, spL_empty]] at a_e
    have a_t := al tW
    rw [show decide (tW ∈ spL l a1 a2) = a2 by rw [Bool.eq_iff_iff, decide_eq_true_iff, spL_t]] at a_t
    have a_v := al vW
    rw [decide_eq_false (spL_v l a1 a2)] at a_v
    have e3 : ((⟨#[117]⟩ : ByteArray) ++ strOfNums ([(97 + (Int.tmod a3 26)) % 256] : List Int)) = mkB (letW a3.toNat) := by
      rw [str_let a3 h3]
      exact mkB_append [117] _
    have e4 : 1 + (strOfNums ([(97 + (Int.tmod a3 26)) % 256] : List Int)).size ≤ 9223372036854775807 := by
      rw [str_let a3 h3, mkB_size]
      simp only [List.length_cons, List.length_nil]
      omega
    simp only [if_neg hne]
    refine Ev.bind hP (Ev.bind hO (Ev.bind hU ?_))
    simp only [show wrap64 (0 + 0) = 0 from w64 (x := 0 + 0) (by decide) (by decide), if_true, Option.bind_some, if_pos e4, e3]
    refine Ev.bind a_let ?_
    simp only [beq_self_eq_true, if_true]
    refine Ev.bind a_e ?_
    simp only [beq_self_eq_true, if_true]
    refine Ev.bind a_t ?_
    simp only [beq_self_eq_true, if_true]
    refine Ev.bind a_v ?_
    simp only [Bool.false_eq_true, if_false]
    refine Ev.bind alv ?_
    simp only [if_true]
    have every : ∀ s, Ev (fun k => wild_Allows.f k 1 ⟨#[]⟩ [] 1 s) true := fun s => by
      have := allows_ev 1 ⟨#[]⟩ [] 1 s (by decide)
      rwa [decide_eq_true (by unfold allowsP; rw [if_pos rfl]; trivial)] at this
    have other : ∀ n s, Ev (fun k => wild_Allows.f k 2 n [] 1 s) (decide (s ≠ ⟨#[]⟩ ∧ s ≠ n)) := fun n s => by
      have := allows_ev 2 n [] 1 s (by decide)
      have e : allowsP 2 n [] s ↔ (s ≠ ⟨#[]⟩ ∧ s ≠ n) := by unfold allowsP; rw [if_neg (by decide), if_pos rfl]
      rwa [decide_eq_decide.2 e] at this
    have hv1 : vW ≠ ⟨#[]⟩ := ba_ne (by decide)
    have hv2 : vW ≠ tW := ba_ne (by decide)
    cases a1 <;> cases a2
    · have o1 := other tW tW
      rw [decide_eq_false (by simp)] at o1
      have o2 := other tW ⟨#[]⟩
      rw [decide_eq_false (by simp)] at o2
      have o3 := other tW vW
      rw [decide_eq_true ⟨hv1, hv2⟩] at o3
      simp only [unR, Bool.false_eq_true, if_false, beq_self_eq_true, if_true]
      refine Ev.bind o1 ?_
      simp only [beq_self_eq_true, if_true]
      refine Ev.bind o2 ?_
      simp only [beq_self_eq_true, if_true]
      exact Ev.bind o3 (Ev.now _)
    · have o1 := other ⟨#[]⟩ tW
      rw [decide_eq_true ⟨empty_ne_t.symm, empty_ne_t.symm⟩] at o1
      have o2 := other ⟨#[]⟩ ⟨#[]⟩
      rw [decide_eq_false (by simp)] at o2
      have o3 := other ⟨#[]⟩ vW
      rw [decide_eq_true ⟨hv1, hv1⟩] at o3
      simp only [unR, Bool.false_eq_true, if_false, beq_self_eq_true, if_true]
      refine Ev.bind o1 ?_
      simp only [beq_self_eq_true, if_true]
      refine Ev.bind o2 ?_
      simp only [beq_self_eq_true, if_true]
      exact Ev.bind o3 (Ev.now _)
    · simp only [unR, if_true, beq_self_eq_true, Bool.false_eq_true, if_false]
      exact Ev.now _
    · simp only [unR, if_true, beq_self_eq_true]
      refine Ev.bind (every _) ?_
      simp only [beq_self_eq_true, if_true]
      refine Ev.bind (every _) ?_
      simp only [beq_self_eq_true, if_true]
      exact Ev.bind (every _) (Ev.now _)
theorem mid_ev (l : List Nat) (hl : l.length ≤ 20) (a1 a2 : Bool) (a3 : Int) (h3 : 0 ≤ a3) : Ev (fun k => rubriclaw14_WildSpaces.j1 k a1 a2 a3 (mkB (txtL (wsL l a1 false))) (inB l a3.toNat)) true := by
  refine Ev_succ ?_
  simp only [rubriclaw14_WildSpaces.j1]
  cases a2 with
  | false =>
    simp only [Bool.false_eq_true, if_false]
    exact fin_ev l hl a1 false a3 h3
  | true =>
    have hsz : (txtL (wsL l a1 false)).length ≤ 3 * l.length + 26 := by
      unfold wsL
      rw [txtL_append, txtL_append, List.length_append, List.length_append, txt_len]
      cases a1 <;> simp [txtL, lst, locW] <;> omega
    have e : mkB (txtL (wsL l a1 false)) ++ (⟨#[32, 35, 35, 116, 97, 114, 103, 101, 116, 78, 97, 109, 101, 115, 112, 97, 99, 101]⟩ : ByteArray) = mkB (txtL (wsL l a1 true)) := by
      refine (mkB_append _ [32, 35, 35, 116, 97, 114, 103, 101, 116, 78, 97, 109, 101, 115, 112, 97, 99, 101]).trans ?_
      congr 1
      unfold wsL
      rw [txtL_append, txtL_append _ (if (true : Bool) = true then _ else _)]
      simp [txtL]
      rfl
    simp only [if_true, if_pos (show (mkB (txtL (wsL l a1 false))).size + 18 ≤ 9223372036854775807 by rw [mkB_size]; omega), e]
    exact fin_ev l hl a1 true a3 h3
theorem loop_ev (l : List Int) (hl : l.length ≤ 20) (hw : ∀ x, x ∈ l → 0 ≤ x) (a1 a2 : Bool) (a3 : Int) (h3 : 0 ≤ a3) :
    ∀ (d i : Nat), i + d = l.length → Ev (fun k => rubriclaw14_WildSpaces.l0 k l a1 a2 a3 (mkB (txtL (((l.take i).map Int.toNat).map letW))) (inB ((l.take i).map Int.toNat) a3.toNat) (i : Int)) true
  | 0, i, hi => by
    have ht : l.take i = l := List.take_of_length_le (by omega)
    rw [ht]
    refine Ev_succ ?_
    have hlen : (l.map Int.toNat).length ≤ 20 := by rw [List.length_map]; exact hl
    have hsz : (mkB (txtL ((l.map Int.toNat).map letW))).size ≤ 60 := by rw [mkB_size, txt_len]; omega
    simp only [rubriclaw14_WildSpaces.l0, if_neg (show ¬ (i : Int) < (l.length : Int) by omega)]
    cases a1 with
    | false =>
      simp only [Bool.false_eq_true, if_false]
      have := mid_ev (l.map Int.toNat) hlen false a2 a3 h3
      have e : wsL (l.map Int.toNat) false false = (l.map Int.toNat).map letW := by simp [wsL]
      rwa [e] at this
    | true =>
      have e : mkB (txtL ((l.map Int.toNat).map letW)) ++ (⟨#[32, 35, 35, 108, 111, 99, 97, 108]⟩ : ByteArray) = mkB (txtL (wsL (l.map Int.toNat) true false)) := by
        refine (mkB_append _ [32, 35, 35, 108, 111, 99, 97, 108]).trans ?_
        congr 1
        unfold wsL
        rw [txtL_append, txtL_append]
        simp [txtL]
        rfl
      simp only [if_true, if_pos (show (mkB (txtL ((l.map Int.toNat).map letW))).size + 8 ≤ 9223372036854775807 by omega), e]
      exact mid_ev (l.map Int.toNat) hlen true a2 a3 h3
  | d + 1, i, hi => by
    have hlt : i < l.length := by omega
    have hr : rd l (i : Int) = l[i] := by
      unfold rd
      rw [Int.toNat_natCast, List.getD_eq_getElem?_getD, List.getElem?_eq_getElem hlt]
      rfl
    have h0 : 0 ≤ l[i] := hw _ (List.getElem_mem hlt)
    have ht : l.take (i + 1) = l.take i ++ [l[i]] := List.take_succ_eq_append_getElem hlt
    have ih := loop_ev l hl hw a1 a2 a3 h3 d (i + 1) (by omega)
    rw [ht, List.map_append, List.map_append, txtL_append] at ih
    have hwr : wrap64 ((i : Int) + 1) = ((i + 1 : Nat) : Int) := by rw [w64 (x := (i : Int) + 1) (by omega) (by omega)]; omega
    have hsz : (txtL (((l.take i).map Int.toNat).map letW)).length ≤ 60 := by
      rw [txt_len, List.length_map, List.length_take]
      omega
    refine Ev_succ ?_
    have e1 : (mkB (txtL (((l.take i).map Int.toNat).map letW)) ++ (⟨#[32, 117]⟩ : ByteArray)) = mkB (txtL (((l.take i).map Int.toNat).map letW) ++ [32, 117]) := mkB_append _ [32, 117]
    simp only [rubriclaw14_WildSpaces.l0, if_pos (show (i : Int) < (l.length : Int) by omega), hr, hwr, if_pos (show (0 : Int) ≤ (i : Int) by omega), Option.bind_some, str_let _ h0, e1, mkB_append, mkB_size,
      if_pos (show (txtL (((l.take i).map Int.toNat).map letW)).length + 2 ≤ 9223372036854775807 by omega),
      if_pos (show (txtL (((l.take i).map Int.toNat).map letW) ++ [32, 117]).length + [UInt8.ofNat (97 + l[i].toNat % 26)].length ≤ 9223372036854775807 by simp only [List.length_append, List.length_cons, List.length_nil]; omega)]
    have e2 : txtL (((l.take i).map Int.toNat).map letW) ++ txtL (([l[i]].map Int.toNat).map letW) = txtL (((l.take i).map Int.toNat).map letW) ++ [32, 117] ++ [UInt8.ofNat (97 + l[i].toNat % 26)] := by
      simp [txtL, letW]
    rw [e2] at ih
    have e3 : inB ((l.take i).map Int.toNat ++ [l[i]].map Int.toNat) a3.toNat = (inB ((l.take i).map Int.toNat) a3.toNat || (l[i].toNat % 26 == a3.toNat % 26)) := by
      simp [inB]
    rw [e3] at ih
    cases hin : inB ((l.take i).map Int.toNat) a3.toNat with
    | true =>
      simp only [if_true]
      rw [hin, Bool.true_or] at ih
      exact ih
    | false =>
      simp only [Bool.false_eq_true, if_false, eq26 _ _ h0 h3]
      rw [hin, Bool.false_or] at ih
      exact ih
theorem spaces_ev (l : List Int) (a1 a2 : Bool) (a3 : Int) (hw : ∀ x, x ∈ l → 0 ≤ x) (h3 : 0 ≤ a3) : Ev (fun k => rubriclaw14_WildSpaces.f k l a1 a2 a3) true := by
  unfold rubriclaw14_WildSpaces.f
  refine Ev.bind known_ev ?_
  simp only [if_true]
  by_cases hl : (l.length : Int) > 20
  · simp only [if_pos hl]
    exact Ev.now _
  · simp only [if_neg hl]
    have := loop_ev l (by omega) hw a1 a2 a3 h3 l.length 0 (by omega)
    exact Ev.congr (fun k => rfl) this

end Go.Proofs.Ytfpedicgeepikaa.B
