import Derived.Test.YtnafjabpkbahdaaB7
import Derived.Test.YtnafjabpkbahdaaPrx13
namespace Go.Proofs.Ytnafjabpkbahdaa.B
open Go.RowKit Go.Proofs.Ytnafjabpkbahdaa Go.Proofs.Ytnafjabpkbahdaa.G Go.Proofs.Ytnafjabpkbahdaa.Pr Go.Proofs.YtnafjabpkbahdaaW.PrintWords Go.Proofs.YtnafjabpkbahdaaW.PrintLast
set_option linter.unusedVariables false
theorem same_eq (n : Bool) (l : List Int) (s : Int) : rubriclaw5_same.f n l s n l s = some true := by
  unfold rubriclaw5_same.f
  rw [if_pos (by simp), if_pos rfl, beq_self_eq_true]
theorem text_eq {n : Bool} {l : List Int} {s : Nat} (h : Can n l s) (hl : l.length ≤ 1048576) : dec_Dec_Text.f n l (s : Int) = some ⟨(sgn1 n ++ txt l ((l.length : Int) - s) l.length).toArray⟩ := by
  have := h.lt
  unfold dec_Dec_Text.f
  rw [if_pos ⟨hl, by omega, by omega⟩]
theorem DecPairs_ev (a0 a1 : ByteArray) : Ev (fun k => rubriclaw5_DecPairs.f k a0 a1) true := by
  have j0t : Ev (fun k => rubriclaw5_DecPairs.j0 k a0 a1 true) true := Ev.step (f := fun _ => some true) (fun k => by simp [rubriclaw5_DecPairs.j0]) (Ev.now _)
  have j1t : ∀ a b c d e f, Ev (fun k => rubriclaw5_DecPairs.j1 k true a b c d e f) true := fun a b c d e f => Ev.step (f := fun _ => some true) (fun k => by simp [rubriclaw5_DecPairs.j1]) (Ev.now _)
  refine Ev.congr (fun k => rfl) (Ev.bind known_ev ?_)
  simp only [if_true]
  by_cases h0 : (a0.size : Int) > 600
  · simp only [if_pos h0]; exact j0t
  by_cases h1 : (a1.size : Int) > 600
  · simp only [if_neg h0, decide_eq_true h1]; exact j0t
  simp only [if_neg h0, decide_eq_false h1]
  obtain ⟨n, l, s, e, p0, _, _, q0⟩ := parse_any a0 (by omega)
  obtain ⟨n', m, t, e', p1, _, _, q1⟩ := parse_any a1 (by omega)
  refine Ev_succ ?_
  simp only [rubriclaw5_DecPairs.j0, Bool.false_eq_true, if_false]
  refine Ev.bind p0 (Ev.bind p1 ?_)
  by_cases g0 : e = 0
  rotate_left
  · simp only [if_neg g0]; exact j1t ..
  by_cases g1 : e' = 0
  rotate_left
  · have : (e' != 0) = true := by simpa using g1
    simp only [if_pos g0, this]; exact j1t ..
  subst g0 g1
  obtain ⟨c0, l0⟩ := q0 rfl
  obtain ⟨c1, l1⟩ := q1 rfl
  have b0 := c0.lt
  have b1 := c1.lt
  obtain ⟨xn, xl, xs, xe, xc, xv, x1, x2⟩ := add_ev 5000 c0 c1 (by omega) (by omega) (by omega)
  obtain ⟨yn, yl, ys, ye, yc, yv, y1, y2⟩ := add_ev 5000 c1 c0 (by omega) (by omega) (by omega)
  obtain ⟨rn, rl, rs, re, rc, rval, r1⟩ := radd_ev 5000 c0 c1 (by omega) (by omega) (by omega)
  obtain ⟨z1, z2, z3⟩ := vl_inj (S := 5000) xc rc (by omega) (by omega) (by rw [xv, rval])
  obtain ⟨z4, z5, z6⟩ := vl_inj (S := 5000) yc rc (by omega) (by omega) (by rw [yv, rval]; omega)
  subst z1 z2 z3 z4 z5 z6
  have cab := cmp_ev 5000 c0 c1 (by omega) (by omega) (by omega) (by omega)
  have cba := cmp_ev 5000 c1 c0 (by omega) (by omega) (by omega) (by omega)
  have rab := rcmp_ev 5000 c0 c1 (by omega) (by omega) (by omega) (by omega)
  rw [show vl 5000 n' m t - vl 5000 n l s = -(vl 5000 n l s - vl 5000 n' m t) by omega, sg_opp] at cba
  have hb := sg_bd (vl 5000 n l s - vl 5000 n' m t)
  simp only [if_true, show ((0 : Int) != 0) = false from rfl]
  refine Ev_succ ?_
  simp only [rubriclaw5_DecPairs.j1, Bool.false_eq_true, if_false, rubriclaw5_Of.f, Option.bind_some]
  refine Ev.bind xe (Ev.bind re (Ev.bind ye (Ev.bind cab ?_)))
  simp only [same_eq, Option.bind_some, if_true]
  refine Ev.bind rab ?_
  simp only [if_true]
  refine Ev.bind cba ?_
  rw [w64 (x := - sg (vl 5000 n l s - vl 5000 n' m t)) (by omega) (by omega)]
  simp only [if_true, text_eq c0 (by omega), text_eq c1 (by omega), Option.bind_some]
  have key : ((sg (vl 5000 n l s - vl 5000 n' m t) == 0) == (((⟨(sgn1 n ++ txt l ((l.length : Int) - s) l.length).toArray⟩ : ByteArray)).toList == ((⟨(sgn1 n' ++ txt m ((m.length : Int) - t) m.length).toArray⟩ : ByteArray)).toList)) = true := by
    rw [toList_lst, toList_lst]
    show ((sg (vl 5000 n l s - vl 5000 n' m t) == 0) == ((sgn1 n ++ txt l ((l.length : Int) - s) l.length) == (sgn1 n' ++ txt m ((m.length : Int) - t) m.length))) = true
    by_cases he : vl 5000 n l s = vl 5000 n' m t
    · obtain ⟨z1, z2, z3⟩ := vl_inj (S := 5000) c0 c1 (by omega) (by omega) he
      subst z1 z2 z3
      rw [Int.sub_self, sg_zero, beq_self_eq_true, beq_self_eq_true]
      rfl
    · have e1 : (sg (vl 5000 n l s - vl 5000 n' m t) == 0) = false := by
        have : sg (vl 5000 n l s - vl 5000 n' m t) ≠ 0 := by
          unfold sg
          split
          · decide
          · rw [if_pos (by omega)]; decide
        simpa using this
      have e2 : ((sgn1 n ++ txt l ((l.length : Int) - s) l.length) == (sgn1 n' ++ txt m ((m.length : Int) - t) m.length)) = false := by
        have : (sgn1 n ++ txt l ((l.length : Int) - s) l.length) ≠ (sgn1 n' ++ txt m ((m.length : Int) - t) m.length) := by
          intro e
          obtain ⟨z1, z2, z3⟩ := text_inj c0 c1 e
          subst z1 z2 z3
          exact he rfl
        simpa using this
      rw [e1, e2]
      rfl
  rw [key]
  simp only [if_true]
  exact Ev.bind (right_ev xc (by omega)) (Ev.now _)

end Go.Proofs.Ytnafjabpkbahdaa.B
