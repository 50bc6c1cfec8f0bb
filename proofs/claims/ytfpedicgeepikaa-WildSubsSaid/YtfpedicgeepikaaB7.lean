import Derived.Test.YtfpedicgeepikaaB6
namespace Go.Proofs.Ytfpedicgeepikaa.B
open Go.RowKit Go.Proofs.Ytfpedicgeepikaa Go.Proofs.Ytfpedicgeepikaa.G Go.Proofs.Ytfpedicgeepikaa.Pr Go.Proofs.YtfpedicgeepikaaW.PrintWords Go.Proofs.YtfpedicgeepikaaW.PrintLast
set_option linter.unusedVariables false
set_option linter.unusedSimpArgs false
/-- Is a byte white? -/
def whiteB (b : UInt8) : Bool := b == 32 || b == 9 || b == 10 || b == 13
/-- The words of a text; acc: the word begun. -/
def wrd : List UInt8 → List UInt8 → List (List UInt8)
  | acc, [] => if acc = [] then [] else [acc]
  | acc, b :: t => if whiteB b = true then (if acc = [] then wrd [] t else acc :: wrd [] t) else wrd (acc ++ [b]) t
theorem bt_of (s : ByteArray) (pre rest : List UInt8) (b : UInt8) (h : lst s = pre ++ b :: rest) : bt s (pre.length : Int) = (b.toNat : Int) := by
  have hs : s.size = pre.length + (rest.length + 1) := by
    have := congrArg List.length h
    simpa [lst] using this
  unfold bt
  rw [dif_pos (by omega)]
  have : s[(pre.length : Int).toNat]'(by omega) = b := by
    have h1 : (lst s)[pre.length]'(by rw [h]; simp) = b := by simp [h]
    rw [← h1]
    simp [lst]
    rfl
  rw [this]
theorem u8_ne {b c : UInt8} (h : b ≠ c) : (b.toNat : Int) ≠ (c.toNat : Int) := fun e => h (UInt8.toNat_inj.1 (by omega))
theorem white_eq (b : UInt8) : char_White.f (wrap32 (b.toNat : Int)) = some (whiteB b) := by
  have hb := b.toNat_lt
  have hw : wrap32 (b.toNat : Int) = (b.toNat : Int) := by unfold wrap32; omega
  rw [hw]
  unfold char_White.f whiteB
  by_cases h1 : b = 32
  · subst h1; rfl
  have n1 : ¬ (b.toNat : Int) = 32 := u8_ne h1
  by_cases h2 : b = 9
  · subst h2; rfl
  have n2 : ¬ (b.toNat : Int) = 9 := u8_ne h2
  by_cases h3 : b = 10
  · subst h3; rfl
  have n3 : ¬ (b.toNat : Int) = 10 := u8_ne h3
  by_cases h4 : b = 13
  · subst h4; rfl
  have n4 : ¬ (b.toNat : Int) = 13 := u8_ne h4
  rw [if_neg n1, if_neg n2, if_neg n3]
  have e1 : (b == 32) = false := by simpa using h1
  have e2 : (b == 9) = false := by simpa using h2
  have e3 : (b == 10) = false := by simpa using h3
  have e4 : (b == 13) = false := by simpa using h4
  have e5 : ((b.toNat : Int) == 13) = false := by simpa using n4
  rw [e1, e2, e3, e4, e5]
  rfl
theorem words_l0 (s : ByteArray) (hs : s.size ≤ 4194304) : ∀ (rest : List UInt8) (q acc : List UInt8) (out : List ByteArray), lst s = q ++ acc ++ rest → out.length + rest.length ≤ 8388608 →
    Ev (fun k => char_Words.l0 k s out (q.length : Int) (((q ++ acc).length : Nat) : Int)) (out ++ (wrd acc rest).map mkB)
  | [], q, acc, out, h, ho => by
    have hsz : s.size = (q ++ acc).length := by
      have := congrArg List.length h
      simpa [lst] using this
    have hx : s.extract q.length (q ++ acc).length = mkB acc := by
      apply lst_inj
      rw [lst_mk]
      unfold lst
      rw [ByteArray.data_extract, Array.toList_extract, List.extract_eq_take_drop]
      have h' : s.data.toList = q ++ acc ++ [] := h
      rw [h']
      simp
    refine Ev_succ (Ev_succ ?_)
    simp only [char_Words.l0, if_pos (show (((q ++ acc).length : Nat) : Int) ≤ (s.size : Int) by omega), if_neg (show ¬ (((q ++ acc).length : Nat) : Int) < (s.size : Int) by omega), char_Words.j1, Bool.false_eq_true, if_false]
    have hw : wrap64 ((((q ++ acc).length : Nat) : Int) + 1) = (((q ++ acc).length : Nat) : Int) + 1 := w64 (by omega) (by omega)
    by_cases ha : acc = []
    · subst ha
      rw [List.append_nil] at *
      simp only [if_neg (show ¬ ((q.length : Nat) : Int) > (q.length : Int) by omega), hw, wrd, if_true, List.map_nil, List.append_nil]
      refine Ev_succ ?_
      simp only [char_Words.l0, if_neg (show ¬ (q.length : Int) + 1 ≤ (s.size : Int) by omega)]
      exact Ev.now _
    · have hl : 0 < acc.length := List.length_pos_iff.2 ha
      have hlen : (q ++ acc).length = q.length + acc.length := List.length_append
      simp only [if_pos (show (((q ++ acc).length : Nat) : Int) > (q.length : Int) by omega), if_pos (show (0 : Int) ≤ (q.length : Int) by omega), if_pos (show (q.length : Int) ≤ (((q ++ acc).length : Nat) : Int) by omega), if_pos (show (((q ++ acc).length : Nat) : Int) ≤ (s.size : Int) by omega), if_pos (show out.length < 8796093022208 by omega), hw, Int.toNat_natCast, hx]
      refine Ev_succ ?_
      simp only [char_Words.l0, if_neg (show ¬ (((q ++ acc).length : Nat) : Int) + 1 ≤ (s.size : Int) by omega), wrd, if_neg ha, List.map_cons, List.map_nil]
      exact Ev.now _
  | b :: rest, q, acc, out, h, ho => by
    have hsz : s.size = (q ++ acc).length + (rest.length + 1) := by
      have := congrArg List.length h
      simp only [List.length_append, List.length_cons, lst, Array.length_toList] at this
      rw [List.length_append]
      exact this
    simp only [List.length_cons] at ho
    have hlen : (q ++ acc).length = q.length + acc.length := List.length_append
    have hb := bt_of s (q ++ acc) rest b h
    have hw : wrap64 ((((q ++ acc).length : Nat) : Int) + 1) = (((q ++ acc).length + 1 : Nat) : Int) := by
      rw [w64 (x := (((q ++ acc).length : Nat) : Int) + 1) (by omega) (by omega)]
      omega
    have hx : s.extract q.length (q ++ acc).length = mkB acc := by
      apply lst_inj
      rw [lst_mk]
      unfold lst
      rw [ByteArray.data_extract, Array.toList_extract, List.extract_eq_take_drop]
      have h' : s.data.toList = q ++ acc ++ b :: rest := h
      rw [h']
      simp
    refine Ev_succ (Ev_succ ?_)
    simp only [char_Words.l0, if_pos (show (((q ++ acc).length : Nat) : Int) ≤ (s.size : Int) by omega), if_pos (show (((q ++ acc).length : Nat) : Int) < (s.size : Int) by omega), if_pos (show (0 : Int) ≤ (((q ++ acc).length : Nat) : Int) by omega), hb, white_eq, Option.bind_some, char_Words.j1, hw]
    cases hwb : whiteB b with
    | false =>
      have ih := words_l0 s hs rest q (acc ++ [b]) out (by rw [h]; simp) (by omega)
      have e : (q ++ (acc ++ [b])).length = (q ++ acc).length + 1 := by simp; omega
      rw [e] at ih
      simp only [Bool.not_false, if_true, wrd, hwb, Bool.false_eq_true, if_false]
      exact ih
    | true =>
      simp only [Bool.not_true, Bool.false_eq_true, if_false, wrd, hwb, if_true]
      by_cases ha : acc = []
      · subst ha
        have ih := words_l0 s hs rest (q ++ [b]) [] out (by rw [h]; simp) (by omega)
        have e : ((q ++ [b]) ++ []).length = (q ++ []).length + 1 := by simp
        have e2 : (q ++ [b]).length = (q ++ []).length + 1 := by simp
        rw [e, e2] at ih
        simp only [if_neg (show ¬ (((q ++ []).length : Nat) : Int) > (q.length : Int) by simp), if_true]
        exact ih
      · have hl : 0 < acc.length := List.length_pos_iff.2 ha
        have ih := words_l0 s hs rest (q ++ acc ++ [b]) [] (out ++ [mkB acc]) (by rw [h]; simp) (by simp only [List.length_append, List.length_singleton]; omega)
        have e : ((q ++ acc ++ [b]) ++ []).length = (q ++ acc).length + 1 := by simp; omega
        have e2 : (q ++ acc ++ [b]).length = (q ++ acc).length + 1 := by simp; omega
        rw [e, e2] at ih
        simp only [if_pos (show (((q ++ acc).length : Nat) : Int) > (q.length : Int) by omega), if_pos (show (0 : Int) ≤ (q.length : Int) by omega), if_pos (show (q.length : Int) ≤ (((q ++ acc).length : Nat) : Int) by omega), if_pos (show (((q ++ acc).length : Nat) : Int) ≤ (s.size : Int) by omega), if_pos (show out.length < 8796093022208 by omega), Int.toNat_natCast, hx, if_neg ha, List.map_cons]
        simpa [List.append_assoc] using ih
theorem words_ev (s : ByteArray) (hs : s.size ≤ 4194304) : Ev (fun k => char_Words.f k s) ((wrd [] (lst s)).map mkB) := by
  have := words_l0 s hs (lst s) [] [] [] (by simp) (by
    have : (lst s).length = s.size := by simp [lst]
    simp only [List.length_nil]
    omega)
  exact Ev.congr (f := fun k => char_Words.l0 k s [] 0 0) (fun k => rfl) (by simpa using this)

end Go.Proofs.Ytfpedicgeepikaa.B
