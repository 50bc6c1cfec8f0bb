/- For every three texts the law DecOrders returns true: what is added on both sides of two decimal numbers turns no order, opposites turn it, and orders hand on. No condition: texts of more than 200 bytes, or that are no numbers, let the law return true at once. -/
import Derived.Test.YtnafjabpkbahdaaPrx7
import Derived.Test.YtnafjabpkbahdaaB4
namespace Go.Proofs.Ytnafjabpkbahdaa.B
open Go.RowKit Go.Proofs.Ytnafjabpkbahdaa Go.Proofs.Ytnafjabpkbahdaa.G Go.Proofs.Ytnafjabpkbahdaa.Pr Go.Proofs.YtnafjabpkbahdaaW.PrintWords Go.Proofs.YtnafjabpkbahdaaW.PrintLast
set_option linter.unusedVariables false
theorem DecOrders_ev (a0 a1 a2 : ByteArray) : Ev (fun k => rubriclaw5_DecOrders.f k a0 a1 a2) true := by
  have j0t : Ev (fun k => rubriclaw5_DecOrders.j0 k a0 a1 a2 true) true := Ev.step (f := fun _ => some true) (fun k => by simp [rubriclaw5_DecOrders.j0]) (Ev.now _)
  have j1t : ∀ a b c d e f g h i, Ev (fun k => rubriclaw5_DecOrders.j1 k true a b c d e f g h i) true := fun a b c d e f g h i => Ev.step (f := fun _ => some true) (fun k => by simp [rubriclaw5_DecOrders.j1]) (Ev.now _)
  refine Ev.congr (fun k => rfl) (Ev.bind known_ev ?_)
  simp only [if_true]
  by_cases h0 : (a0.size : Int) > 200
  · simp only [if_pos h0]; exact j0t
  by_cases h1 : (a1.size : Int) > 200
  · simp only [if_neg h0, if_pos h1]; exact j0t
  by_cases h2 : (a2.size : Int) > 200
  · simp only [if_neg h0, if_neg h1, decide_eq_true h2]; exact j0t
  simp only [if_neg h0, if_neg h1, decide_eq_false h2]
  obtain ⟨n, l, s, e, p0, _, _, q0⟩ := parse_any a0 (by omega)
  obtain ⟨n', m, t, e', p1, _, _, q1⟩ := parse_any a1 (by omega)
  obtain ⟨n'', r, u, e'', p2, _, _, q2⟩ := parse_any a2 (by omega)
  refine Ev_succ ?_
  simp only [rubriclaw5_DecOrders.j0, Bool.false_eq_true, if_false]
  refine Ev.bind p0 (Ev.bind p1 (Ev.bind p2 ?_))
  by_cases g0 : e = 0
  rotate_left
  · simp only [if_neg g0]; exact j1t ..
  by_cases g1 : e' = 0
  rotate_left
  · simp only [if_pos g0, if_neg g1]; exact j1t ..
  by_cases g2 : e'' = 0
  rotate_left
  · have : (e'' != 0) = true := by simpa using g2
    simp only [if_pos g0, if_pos g1, this]; exact j1t ..
  subst g0 g1 g2
  obtain ⟨c0, l0⟩ := q0 rfl
  obtain ⟨c1, l1⟩ := q1 rfl
  obtain ⟨c2, l2⟩ := q2 rfl
  have b0 := c0.lt
  have b1 := c1.lt
  have b2 := c2.lt
  obtain ⟨xn, xl, xs, xe, xc, xv, x1, x2⟩ := add_ev 5000 c0 c2 (by omega) (by omega) (by omega)
  obtain ⟨yn, yl, ys, ye, yc, yv, y1, y2⟩ := add_ev 5000 c1 c2 (by omega) (by omega) (by omega)
  have cab := cmp_ev 5000 c0 c1 (by omega) (by omega) (by omega) (by omega)
  have cba := cmp_ev 5000 c1 c0 (by omega) (by omega) (by omega) (by omega)
  have cbc := cmp_ev 5000 c1 c2 (by omega) (by omega) (by omega) (by omega)
  have cac := cmp_ev 5000 c0 c2 (by omega) (by omega) (by omega) (by omega)
  have cxy := cmp_ev 5000 xc yc (by omega) (by omega) (by omega) (by omega)
  obtain ⟨na, ea, ca, va⟩ := neg_eq 5000 c0 (by omega)
  obtain ⟨nb, eb, cb, vb⟩ := neg_eq 5000 c1 (by omega)
  have cnn := cmp_ev 5000 ca cb (by omega) (by omega) (by omega) (by omega)
  rw [xv, yv, show vl 5000 n l s + vl 5000 n'' r u - (vl 5000 n' m t + vl 5000 n'' r u) = vl 5000 n l s - vl 5000 n' m t by omega] at cxy
  rw [va, vb, show - vl 5000 n l s - - vl 5000 n' m t = vl 5000 n' m t - vl 5000 n l s by omega] at cnn
  simp only [if_true, show ((0 : Int) != 0) = false from rfl]
  refine Ev_succ ?_
  simp only [rubriclaw5_DecOrders.j1, Bool.false_eq_true, if_false]
  refine Ev.bind xe (Ev.bind ye ?_)
  simp only [show wrap64 (0 + 0) = 0 from (w64 (x := 0 + 0) (by decide) (by decide)).trans rfl, if_true]
  refine Ev.bind cxy (Ev.bind cab ?_)
  simp only [if_true, ea, eb, Option.bind_some]
  refine Ev.bind cnn (Ev.bind cba ?_)
  simp only [bne_self_eq_false]
  refine Ev_succ ?_
  simp only [rubriclaw5_DecOrders.j2, Bool.false_eq_true, if_false]
  refine Ev.bind cab ?_
  generalize vl 5000 n l s = x at *
  generalize vl 5000 n' m t = y at *
  generalize vl 5000 n'' r u = z at *
  by_cases k0 : sg (x - y) > 0
  · simp only [if_pos k0]; exact Ev.now _
  simp only [if_neg k0]
  refine Ev.bind cbc ?_
  by_cases k1 : sg (y - z) > 0
  · simp only [if_pos k1]; exact Ev.now _
  simp only [if_neg k1]
  refine Ev.bind cac ?_
  have hle : sg (x - z) ≤ 0 := by
    unfold sg at *
    split at k0 <;> split at k1 <;> split <;> (try split) <;> (try split at k0) <;> (try split at k1) <;> omega
  simp only [decide_eq_true hle]
  exact Ev.now _
end Go.Proofs.Ytnafjabpkbahdaa.B
namespace Go.Proofs.Ytnafjabpkbahdaa.Pure
open Go.RowKit Go.Proofs.Ytnafjabpkbahdaa.Pr Go.Proofs.Ytnafjabpkbahdaa.B Go.Proofs.YtnafjabpkbahdaaW.PrintWords Go.Proofs.YtnafjabpkbahdaaW.PrintLast

theorem DecOrders : rubriclaw5_DecOrders.Pure := fun a0 a1 a2 _ _ _ => (DecOrders_ev a0 a1 a2).rounds

end Go.Proofs.Ytnafjabpkbahdaa.Pure
