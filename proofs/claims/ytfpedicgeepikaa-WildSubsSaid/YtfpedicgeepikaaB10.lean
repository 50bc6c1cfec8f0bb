import Derived.Test.YtfpedicgeepikaaB9
namespace Go.Proofs.Ytfpedicgeepikaa.B
open Go.RowKit Go.Proofs.Ytfpedicgeepikaa Go.Proofs.Ytfpedicgeepikaa.G Go.Proofs.Ytfpedicgeepikaa.Pr Go.Proofs.YtfpedicgeepikaaW.PrintWords Go.Proofs.YtfpedicgeepikaaW.PrintLast
set_option linter.unusedVariables false
set_option linter.unusedSimpArgs false
def othW : ByteArray := ⟨#[35, 35, 111, 116, 104, 101, 114]⟩
theorem procSkip : Ev (fun k => wild_process.f k (⟨#[115, 107, 105, 112]⟩ : ByteArray)) 3 := by
  have n0 : ¬ (⟨#[115, 107, 105, 112]⟩ : ByteArray).toList = ([] : List UInt8) := fun h => by rw [toList_lst] at h; cases h
  have n1 : ((⟨#[115, 107, 105, 112]⟩ : ByteArray).toList == ([115, 116, 114, 105, 99, 116] : List UInt8)) = false := by rw [toList_lst]; decide
  have n2 : ¬ (⟨#[115, 107, 105, 112]⟩ : ByteArray).toList = ([108, 97, 120] : List UInt8) := fun h => by rw [toList_lst] at h; revert h; decide
  have n3 : (⟨#[115, 107, 105, 112]⟩ : ByteArray).toList = ([115, 107, 105, 112] : List UInt8) := by rw [toList_lst]; rfl
  refine Ev.congr (f := fun k => wild_process.j0 k ⟨#[115, 107, 105, 112]⟩ false) (fun k => ?_) (Ev_succ ?_)
  · unfold wild_process.f
    rw [if_neg n0, n1]
  · simp only [wild_process.j0, Bool.false_eq_true, if_false, if_neg n2, if_pos n3]
    exact Ev.now _
theorem procLax : Ev (fun k => wild_process.f k (⟨#[108, 97, 120]⟩ : ByteArray)) 2 := by
  have n0 : ¬ (⟨#[108, 97, 120]⟩ : ByteArray).toList = ([] : List UInt8) := fun h => by rw [toList_lst] at h; cases h
  have n1 : ((⟨#[108, 97, 120]⟩ : ByteArray).toList == ([115, 116, 114, 105, 99, 116] : List UInt8)) = false := by rw [toList_lst]; decide
  have n2 : (⟨#[108, 97, 120]⟩ : ByteArray).toList = ([108, 97, 120] : List UInt8) := by rw [toList_lst]; rfl
  refine Ev.congr (f := fun k => wild_process.j0 k ⟨#[108, 97, 120]⟩ false) (fun k => ?_) (Ev_succ ?_)
  · unfold wild_process.f
    rw [if_neg n0, n1]
  · simp only [wild_process.j0, Bool.false_eq_true, if_false, if_pos n2]
    exact Ev.now _
theorem parse_other (t how : ByteArray) (p : Int) (hp : Ev (fun k => wild_process.f k how) p) (h0 : p ≠ 0) : Ev (fun k => wild_Parse.f k othW t how) (2, t, [], p, 0) := by
  have hW := words_ev othW (by decide)
  have hw : (wrd [] (lst othW)).map mkB = [othW] := rfl
  rw [hw] at hW
  have e0 : rdOf ByteArray.empty [othW] 0 = othW := rfl
  have n1 : (othW.toList == ([35, 35, 97, 110, 121] : List UInt8)) = false := by rw [toList_lst]; decide
  have n2 : othW.toList = ([35, 35, 111, 116, 104, 101, 114] : List UInt8) := by rw [toList_lst]; rfl
  unfold wild_Parse.f
  refine Ev.bind hp ?_
  simp only [if_neg h0]
  refine Ev.bind hW ?_
  simp only [List.length_singleton, e0, n1]
  refine Ev_succ ?_
  simp only [wild_Parse.j0, List.length_singleton, e0, Bool.false_eq_true, if_false, if_pos n2]
  exact Ev.now _

end Go.Proofs.Ytfpedicgeepikaa.B
