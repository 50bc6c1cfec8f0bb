import Derived.Test.YtfpedicgeepikaaB3
import Derived.Test.YtfpedicgeepikaaG7
namespace Go.Proofs.Ytfpedicgeepikaa.B
open Go.RowKit Go.Proofs.Ytfpedicgeepikaa Go.Proofs.Ytfpedicgeepikaa.G Go.Proofs.Ytfpedicgeepikaa.Pr Go.Proofs.YtfpedicgeepikaaW.PrintWords Go.Proofs.YtfpedicgeepikaaW.PrintLast
set_option linter.unusedVariables false
set_option linter.unusedSimpArgs false
/-- What say tells of what is allowed and what not. -/
def sayP (others : Bool) (proc : Int) (ins outs : List ByteArray) : Int × ByteArray × List ByteArray × Int × Bool :=
  if others = true then
    match outs with
    | [] => (1, ⟨#[]⟩, [], proc, true)
    | o :: os => if o = ⟨#[]⟩ then (match os with
        | [] => (2, ⟨#[]⟩, [], proc, true)
        | [o2] => (2, o2, [], proc, true)
        | _ :: _ :: _ => (0, ⟨#[]⟩, [], 0, false)) else (0, ⟨#[]⟩, [], 0, false)
  else (3, ⟨#[]⟩, setL ins, proc, true)
theorem sayBoth_l0 (pr : S26 × S26) (cl : ByteArray → Bool) (hcl : ∀ s, Ev (fun k => wild_clBoth.f k pr s) (cl s)) (others : Bool) (proc : Int) (l : List ByteArray) (hl : l.length ≤ 4194304) :
    ∀ (d i : Nat) (xi xo : List ByteArray), i + d = l.length → xi.length + d ≤ 8388608 → xo.length + d ≤ 8388608 →
      Ev (fun k => wild_sayBoth.l0 k others proc pr xi xo l (l.length : Int) (i : Int)) (sayP others proc (xi ++ (l.drop i).filter cl) (xo ++ (l.drop i).filter (fun s => !cl s)))
  | 0, i, xi, xo, hi, h1, h2 => by
    rw [List.drop_of_length_le (by omega)]
    simp only [List.filter_nil, List.append_nil]
    refine Ev_succ ?_
    simp only [wild_sayBoth.l0, if_neg (show ¬ (i : Int) < (l.length : Int) by omega)]
    cases others with
    | false =>
      have ht : wild_these.f xi proc = some (3, ⟨#[]⟩, setL xi, proc) := by
        unfold wild_these.f
        rw [if_pos (by omega)]
        rfl
      simp only [Bool.false_eq_true, if_false, ht, Option.bind_some, sayP]
      exact Ev.now _
    | true =>
      simp only [if_true, sayP]
      match xo with
      | [] =>
        simp only [List.length_nil]
        exact Ev.now _
      | o :: os =>
        simp only [if_neg (show ¬ (((o :: os).length : Nat) : Int) = 0 by simp only [List.length_cons]; omega), if_pos (show (0 : Int) < (((o :: os).length : Nat) : Int) by simp only [List.length_cons]; omega)]
        have e0 : rdOf ByteArray.empty (o :: os) 0 = o := rfl
        simp only [e0]
        by_cases ho : o = ⟨#[]⟩
        · simp only [if_pos (tl_nil.2 ho), if_pos ho]
          refine Ev_succ ?_
          match os with
          | [] =>
            simp only [wild_sayBoth.j1, List.length_cons, List.length_nil]
            exact Ev.now _
          | [o2] =>
            have e1 : rdOf ByteArray.empty [o, o2] 1 = o2 := rfl
            simp only [wild_sayBoth.j1, List.length_cons, List.length_nil, e1]
            exact Ev.now _
          | o2 :: o3 :: os' =>
            simp only [wild_sayBoth.j1, decide_eq_true (show (((o :: o2 :: o3 :: os').length : Nat) : Int) > 2 by simp only [List.length_cons]; omega), if_true]
            exact Ev.now _
        · simp only [if_neg (fun hh => ho (tl_nil.1 hh)), if_neg ho]
          refine Ev_succ ?_
          simp only [wild_sayBoth.j1, if_true]
          exact Ev.now _
  | d + 1, i, xi, xo, hi, h1, h2 => by
    have hd : l.drop i = l[i]'(by omega) :: l.drop (i + 1) := List.drop_eq_getElem_cons (by omega)
    have hg : rdOf ByteArray.empty l (i : Int) = l[i]'(by omega) := by
      unfold rdOf
      rw [Int.toNat_natCast, List.getD_eq_getElem?_getD, List.getElem?_eq_getElem (by omega)]
      rfl
    have hw : wrap64 ((i : Int) + 1) = ((i + 1 : Nat) : Int) := by rw [w64 (x := (i : Int) + 1) (by omega) (by omega)]; omega
    refine Ev_succ ?_
    simp only [wild_sayBoth.l0, if_pos (show (i : Int) < (l.length : Int) by omega), if_pos (show (0 : Int) ≤ (i : Int) by omega), hg, hw, if_pos (show xi.length < 8796093022208 by omega), if_pos (show xo.length < 8796093022208 by omega)]
    refine Ev.bind (hcl _) ?_
    rw [hd]
    cases hc : cl (l[i]'(by omega)) with
    | true =>
      have := sayBoth_l0 pr cl hcl others proc l hl d (i + 1) (xi ++ [l[i]'(by omega)]) xo (by omega) (by simp only [List.length_append, List.length_singleton]; omega) (by omega)
      simp only [if_true, List.filter_cons, hc, Bool.not_true, Bool.false_eq_true, if_false]
      simpa [List.append_assoc] using this
    | false =>
      have := sayBoth_l0 pr cl hcl others proc l hl d (i + 1) xi (xo ++ [l[i]'(by omega)]) (by omega) (by omega) (by simp only [List.length_append, List.length_singleton]; omega)
      simp only [Bool.false_eq_true, if_false, List.filter_cons, hc, Bool.not_false, if_true]
      simpa [List.append_assoc] using this
theorem sayBoth_ev (pr : S26 × S26) (cl : ByteArray → Bool) (hcl : ∀ s, Ev (fun k => wild_clBoth.f k pr s) (cl s)) (others : Bool) (proc : Int) (l : List ByteArray) (hl : l.length ≤ 4194304) :
    Ev (fun k => wild_sayBoth.f k l others proc pr) (sayP others proc (l.filter cl) (l.filter (fun s => !cl s))) := by
  have := sayBoth_l0 pr cl hcl others proc l hl l.length 0 [] [] (by omega) (by simp; omega) (by simp; omega)
  rw [List.drop_zero] at this
  exact Ev.congr (fun k => rfl) this
theorem sayUnion_l0 (pr : S26 × S26) (cl : ByteArray → Bool) (hcl : ∀ s, Ev (fun k => wild_clUnion.f k pr s) (cl s)) (others : Bool) (proc : Int) (l : List ByteArray) (hl : l.length ≤ 4194304) :
    ∀ (d i : Nat) (xi xo : List ByteArray), i + d = l.length → xi.length + d ≤ 8388608 → xo.length + d ≤ 8388608 →
      Ev (fun k => wild_sayUnion.l0 k others proc pr xi xo l (l.length : Int) (i : Int)) (sayP others proc (xi ++ (l.drop i).filter cl) (xo ++ (l.drop i).filter (fun s => !cl s)))
  | 0, i, xi, xo, hi, h1, h2 => by
    rw [List.drop_of_length_le (by omega)]
    simp only [List.filter_nil, List.append_nil]
    refine Ev_succ ?_
    simp only [wild_sayUnion.l0, if_neg (show ¬ (i : Int) < (l.length : Int) by omega)]
    cases others with
    | false =>
      have ht : wild_these.f xi proc = some (3, ⟨#[]⟩, setL xi, proc) := by
        unfold wild_these.f
        rw [if_pos (by omega)]
        rfl
      simp only [Bool.false_eq_true, if_false, ht, Option.bind_some, sayP]
      exact Ev.now _
    | true =>
      simp only [if_true, sayP]
      match xo with
      | [] =>
        simp only [List.length_nil]
        exact Ev.now _
      | o :: os =>
        simp only [if_neg (show ¬ (((o :: os).length : Nat) : Int) = 0 by simp only [List.length_cons]; omega), if_pos (show (0 : Int) < (((o :: os).length : Nat) : Int) by simp only [List.length_cons]; omega)]
        have e0 : rdOf ByteArray.empty (o :: os) 0 = o := rfl
        simp only [e0]
        by_cases ho : o = ⟨#[]⟩
        · simp only [if_pos (tl_nil.2 ho), if_pos ho]
          refine Ev_succ ?_
          match os with
          | [] =>
            simp only [wild_sayUnion.j1, List.length_cons, List.length_nil]
            exact Ev.now _
          | [o2] =>
            have e1 : rdOf ByteArray.empty [o, o2] 1 = o2 := rfl
            simp only [wild_sayUnion.j1, List.length_cons, List.length_nil, e1]
            exact Ev.now _
          | o2 :: o3 :: os' =>
            simp only [wild_sayUnion.j1, decide_eq_true (show (((o :: o2 :: o3 :: os').length : Nat) : Int) > 2 by simp only [List.length_cons]; omega), if_true]
            exact Ev.now _
        · simp only [if_neg (fun hh => ho (tl_nil.1 hh)), if_neg ho]
          refine Ev_succ ?_
          simp only [wild_sayUnion.j1, if_true]
          exact Ev.now _
  | d + 1, i, xi, xo, hi, h1, h2 => by
    have hd : l.drop i = l[i]'(by omega) :: l.drop (i + 1) := List.drop_eq_getElem_cons (by omega)
    have hg : rdOf ByteArray.empty l (i : Int) = l[i]'(by omega) := by
      unfold rdOf
      rw [Int.toNat_natCast, List.getD_eq_getElem?_getD, List.getElem?_eq_getElem (by omega)]
      rfl
    have hw : wrap64 ((i : Int) + 1) = ((i + 1 : Nat) : Int) := by rw [w64 (x := (i : Int) + 1) (by omega) (by omega)]; omega
    refine Ev_succ ?_
    simp only [wild_sayUnion.l0, if_pos (show (i : Int) < (l.length : Int) by omega), if_pos (show (0 : Int) ≤ (i : Int) by omega), hg, hw, if_pos (show xi.length < 8796093022208 by omega), if_pos (show xo.length < 8796093022208 by omega)]
    refine Ev.bind (hcl _) ?_
    rw [hd]
    cases hc : cl (l[i]'(by omega)) with
    | true =>
      have := sayUnion_l0 pr cl hcl others proc l hl d (i + 1) (xi ++ [l[i]'(by omega)]) xo (by omega) (by simp only [List.length_append, List.length_singleton]; omega) (by omega)
      simp only [if_true, List.filter_cons, hc, Bool.not_true, Bool.false_eq_true, if_false]
      simpa [List.append_assoc] using this
    | false =>
      have := sayUnion_l0 pr cl hcl others proc l hl d (i + 1) xi (xo ++ [l[i]'(by omega)]) (by omega) (by omega) (by simp only [List.length_append, List.length_singleton]; omega)
      simp only [Bool.false_eq_true, if_false, List.filter_cons, hc, Bool.not_false, if_true]
      simpa [List.append_assoc] using this
theorem sayUnion_ev (pr : S26 × S26) (cl : ByteArray → Bool) (hcl : ∀ s, Ev (fun k => wild_clUnion.f k pr s) (cl s)) (others : Bool) (proc : Int) (l : List ByteArray) (hl : l.length ≤ 4194304) :
    Ev (fun k => wild_sayUnion.f k l others proc pr) (sayP others proc (l.filter cl) (l.filter (fun s => !cl s))) := by
  have := sayUnion_l0 pr cl hcl others proc l hl l.length 0 [] [] (by omega) (by simp; omega) (by simp; omega)
  rw [List.drop_zero] at this
  exact Ev.congr (fun k => rfl) this


end Go.Proofs.Ytfpedicgeepikaa.B
