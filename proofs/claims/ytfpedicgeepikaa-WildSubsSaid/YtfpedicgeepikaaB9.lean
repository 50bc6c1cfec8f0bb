import Derived.Test.YtfpedicgeepikaaB8
namespace Go.Proofs.Ytfpedicgeepikaa.B
open Go.RowKit Go.Proofs.Ytfpedicgeepikaa Go.Proofs.Ytfpedicgeepikaa.G Go.Proofs.Ytfpedicgeepikaa.Pr Go.Proofs.YtfpedicgeepikaaW.PrintWords Go.Proofs.YtfpedicgeepikaaW.PrintLast
set_option linter.unusedVariables false
set_option linter.unusedSimpArgs false
theorem proc0 : Ev (fun k => wild_process.f k (⟨#[]⟩ : ByteArray)) 1 := by
  refine Ev.congr (f := fun k => wild_process.j0 k ⟨#[]⟩ true) (fun k => ?_) (Ev_succ ?_)
  · unfold wild_process.f
    rw [if_pos (tl_nil.2 rfl), (beq_iff_eq.2 (tl_nil.2 rfl) : ((⟨#[]⟩ : ByteArray).toList == ([] : List UInt8)) = true)]
  · simp only [wild_process.j0, if_true]
    exact Ev.now _
/-- A text that names spaces. -/
theorem parse_these (s t : ByteArray) (hs : s.size ≤ 1048576) (ws : List ByteArray) (hw : (wrd [] (lst s)).map mkB = ws) (hl : ws.length ≤ 1048576) (h0 : ws ≠ []) (h1 : ∀ w, ws = [w] → w ≠ mkB [35, 35, 97, 110, 121] ∧ w ≠ mkB [35, 35, 111, 116, 104, 101, 114]) (hg : ∀ w, w ∈ ws → GoodW w) :
    Ev (fun k => wild_Parse.f k s t ⟨#[]⟩) (3, ⟨#[]⟩, setL (ws.map (mapW t)), 1, 0) := by
  have hW := words_ev s (by omega)
  rw [hw] at hW
  have hL := parse_l0 t 1 ws hl hg ws.length 0 [] (by omega) (by simp only [List.length_nil]; omega)
  rw [List.drop_zero, List.nil_append] at hL
  have hlen : 0 < ws.length := List.length_pos_iff.2 h0
  unfold wild_Parse.f
  refine Ev.bind proc0 ?_
  simp only [if_neg (show ¬ (1 : Int) = 0 by decide)]
  refine Ev.bind hW ?_
  simp only [if_neg (show ¬ (ws.length : Int) = 0 by omega)]
  by_cases hone : (ws.length : Int) = 1
  · obtain ⟨w, rfl⟩ : ∃ w, ws = [w] := List.length_eq_one_iff.1 (by omega)
    have e0 : rdOf ByteArray.empty [w] 0 = w := rfl
    simp only [if_pos hone, if_pos (show (0 : Int) < (([w] : List ByteArray).length : Int) by simp), e0]
    have n1 : (w.toList == ([35, 35, 97, 110, 121] : List UInt8)) = false := beq_eq_false_iff_ne.2 (fun hh => (h1 w rfl).1 ((tl_is _).1 hh))
    rw [n1]
    refine Ev_succ (Ev.congr (f := fun k => wild_Parse.j1 k t 1 [w]) (fun k => ?_) (Ev_succ (Ev.congr (fun k => rfl) hL)))
    simp only [wild_Parse.j0, Bool.false_eq_true, if_false, if_pos hone, if_pos (show (0 : Int) < (([w] : List ByteArray).length : Int) by simp), e0, if_neg (fun hh => (h1 w rfl).2 ((tl_is _).1 hh))]
  · simp only [if_neg hone]
    refine Ev_succ (Ev.congr (f := fun k => wild_Parse.j1 k t 1 ws) (fun k => ?_) (Ev_succ (Ev.congr (fun k => rfl) hL)))
    simp only [wild_Parse.j0, Bool.false_eq_true, if_false, if_neg hone]

end Go.Proofs.Ytfpedicgeepikaa.B
