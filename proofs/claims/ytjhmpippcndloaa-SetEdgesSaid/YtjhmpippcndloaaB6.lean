import Derived.Test.YtjhmpippcndloaaB5
import Derived.Test.YtjhmpippcndloaaPrx9
namespace Go.Proofs.Ytjhmpippcndloaa.B
open Go.RowKit Go.Proofs.Ytjhmpippcndloaa Go.Proofs.Ytjhmpippcndloaa.G Go.Proofs.Ytjhmpippcndloaa.Pr Go.Proofs.YtjhmpippcndloaaW.PrintWords Go.Proofs.YtjhmpippcndloaaW.PrintLast
set_option linter.unusedVariables false
set_option linter.unusedSimpArgs false
/-! ### SetLaws -/
theorem minus_ev (a b : List S24) (ca : Canon a) (cb : Canon b) (ha : a.length ≤ 1048576) (hb : b.length ≤ 1048576) :
    ∃ s : List S24, Ev (fun k => set_Minus.f k a b) s ∧ Canon s ∧ s.length ≤ a.length + b.length + 1 ∧ ∀ r, hasP s r ↔ hasP a r ∧ ¬ hasP b r := by
  have hn := notL_length b 0
  obtain ⟨s, e, c, l, h⟩ := both_ev a (notL 0 b) ca (not_canon cb) (by omega) (by omega)
  refine ⟨s, Ev.bind (not_ev b cb (by omega)) (Ev.bind e (Ev.now _)), c, by omega, fun r => ?_⟩
  rw [h r, not_has cb]
  exact ⟨fun hh => ⟨hh.1, hh.2.2.2⟩, fun hh => ⟨hh.1, (ca.bound hh.1).1, (ca.bound hh.1).2, hh.2⟩⟩
theorem size_pos {s : List S24} (h : Canon s) : 0 ≤ sizeL s ∧ sizeL s ≤ 1114112 := by
  have := sizeL_bound s 0 h (by decide) (fun y hy => (h.each y hy).1)
  unfold topL at this
  omega
theorem size_of {s : List S24} (h : Canon s) {p : Int → Bool} (hp : ∀ r, 0 ≤ r → r ≤ topL → (hasP s r ↔ p r = true)) : sizeL s = (cnt p : Int) := by
  have e : cnt (fun r => decide (hasP s r)) = cnt p := cnt_congr (fun r h0 h1 => by rw [Bool.eq_iff_iff, decide_eq_true_iff]; exact hp r h0 h1)
  rw [size_cnt s h, e]
theorem count_range (N : Nat) : (List.range N).countP (fun _ => true) = N := by
  rw [List.countP_true, List.length_range]
theorem cnt_all : cnt (fun _ => true) = 1114112 := count_range 1114112
theorem sizes_two {x y u i : List S24} (cx : Canon x) (cy : Canon y) (cu : Canon u) (ci : Canon i) (hu : ∀ r, hasP u r ↔ hasP x r ∨ hasP y r) (hi : ∀ r, hasP i r ↔ hasP x r ∧ hasP y r) : sizeL x + sizeL y = sizeL u + sizeL i := by
  have h := cnt_two (fun r => decide (hasP x r)) (fun r => decide (hasP y r))
  rw [size_cnt x cx, size_cnt y cy, size_of cu (p := fun r => decide (hasP x r) || decide (hasP y r)) (fun r _ _ => by rw [Bool.or_eq_true, decide_eq_true_iff, decide_eq_true_iff]; exact hu r),
    size_of ci (p := fun r => decide (hasP x r) && decide (hasP y r)) (fun r _ _ => by rw [Bool.and_eq_true, decide_eq_true_iff, decide_eq_true_iff]; exact hi r)]
  omega
theorem sizes_not {x : List S24} (cx : Canon x) : sizeL x + sizeL (notL 0 x) = 1114112 := by
  have h := cnt_two (fun r => decide (hasP x r)) (fun r => !decide (hasP x r))
  have h1 : cnt (fun r => decide (hasP x r) || !decide (hasP x r)) = cnt (fun _ => true) := cnt_congr (fun r _ _ => by simp)
  have h2 : cnt (fun r => decide (hasP x r) && !decide (hasP x r)) = 0 := cnt_none (fun r _ _ => by simp)
  rw [size_cnt x cx, size_of (not_canon cx) (p := fun r => !decide (hasP x r)) (fun r h0 h1 => by
    rw [not_has cx, Bool.not_eq_true', decide_eq_false_iff_not]
    exact ⟨fun h => h.2.2, fun h => ⟨h0, h1, h⟩⟩)]
  rw [h1, h2, cnt_all] at h
  omega
theorem sizes_minus {x y m i : List S24} (cx : Canon x) (cm : Canon m) (ci : Canon i) (hm : ∀ r, hasP m r ↔ hasP x r ∧ ¬ hasP y r) (hi : ∀ r, hasP i r ↔ hasP x r ∧ hasP y r) : sizeL m + sizeL i = sizeL x := by
  have h := cnt_two (fun r => decide (hasP m r)) (fun r => decide (hasP i r))
  have h1 : cnt (fun r => decide (hasP m r) || decide (hasP i r)) = cnt (fun r => decide (hasP x r)) := cnt_congr (fun r _ _ => by
    rw [Bool.eq_iff_iff, Bool.or_eq_true, decide_eq_true_iff, decide_eq_true_iff, decide_eq_true_iff, hm r, hi r]
    by_cases hy : hasP y r <;> simp [hy])
  have h2 : cnt (fun r => decide (hasP m r) && decide (hasP i r)) = 0 := cnt_none (fun r _ _ => by
    rw [← Bool.not_eq_true, Bool.and_eq_true, decide_eq_true_iff, decide_eq_true_iff, hm r, hi r]
    rintro ⟨h1, h2⟩
    exact h1.2 h2.2)
  rw [size_cnt m cm, size_cnt i ci, size_cnt x cx]
  rw [h1, h2] at h
  omega
theorem not_not {x : List S24} (cx : Canon x) : notL 0 (notL 0 x) = x := canon_ext _ _ (not_canon (not_canon cx)) cx (fun r => by
  rw [not_has (not_canon cx), not_has cx]
  constructor
  · rintro ⟨h0, h1, h2⟩
    exact Decidable.byContradiction (fun h => h2 ⟨h0, h1, h⟩)
  · exact fun h => ⟨(cx.bound h).1, (cx.bound h).2, fun hh => hh.2.2 h⟩)
theorem laws_tail (x y u i m : List S24) (r : Int) (b : Bool) (hr0 : 0 ≤ r) (hr1 : r ≤ topL) (hb : b = decide (hasP x r)) (cx : Canon x) (cy : Canon y) (cu : Canon u) (ci : Canon i) (cm : Canon m) (lx : x.length ≤ 1048576) (ly : y.length ≤ 1048576) (lu : u.length ≤ 2097152) (li : i.length ≤ 2097152) (lm : m.length ≤ 4194304)
    (hu : ∀ r, hasP u r ↔ hasP x r ∨ hasP y r) (hi : ∀ r, hasP i r ↔ hasP x r ∧ hasP y r) (hm : ∀ r, hasP m r ↔ hasP x r ∧ ¬ hasP y r) :
    Ev (fun k => (set_Set_Not.f k x).bind fun t320 => ((G.set_Has.f t320 r).bind fun t323 => (if (t323 == (!b)) = true then ((set_Set_Size.f k x).bind fun t324 => ((set_Set_Size.f k y).bind fun t325 => ((set_Set_Size.f k u).bind fun t326 => ((set_Set_Size.f k i).bind fun t327 =>
      (if (wrap64 (t324 + t325)) = (wrap64 (t326 + t327)) then ((set_Set_Size.f k x).bind fun t328 => ((set_Set_Not.f k x).bind fun t329 => ((set_Set_Size.f k t329).bind fun t332 => (if (wrap64 (t328 + t332)) = 1114112 then ((set_Set_Size.f k m).bind fun t333 => ((set_Set_Size.f k i).bind fun t334 => ((set_Set_Size.f k x).bind fun t335 =>
      (if (wrap64 (t333 + t334)) = t335 then ((set_Set_Not.f k x).bind fun t336 => ((set_Set_Not.f k t336).bind fun t339 => ((set_Same.f k t339 x).bind fun t342 => (some t342)))) else (some false))))) else (some false))))) else (some false)))))) else (some false)))) true := by
  have ln := notL_length x 0
  have lnn := notL_length (notL 0 x) 0
  have cn := not_canon cx
  have eN := not_ev x cx (by omega)
  have sx := size_ev x cx (by omega)
  have sy := size_ev y cy (by omega)
  have su := size_ev u cu (by omega)
  have si := size_ev i ci (by omega)
  have sm := size_ev m cm (by omega)
  have sn := size_ev (notL 0 x) cn (by omega)
  have px := size_pos cx
  have py := size_pos cy
  have pu := size_pos cu
  have pi := size_pos ci
  have pm := size_pos cm
  have pn := size_pos cn
  have t1 := sizes_two cx cy cu ci hu hi
  have t2 := sizes_not cx
  have t3 := sizes_minus cx cm ci hm hi
  have hh : set_Has.f (notL 0 x) r = some (!b) := by
    rw [has_ev _ _ (by omega), hb]
    congr 1
    rw [Bool.eq_iff_iff, decide_eq_true_iff, not_has cx, Bool.not_eq_true', decide_eq_false_iff_not]
    exact ⟨fun h => h.2.2, fun h => ⟨hr0, hr1, h⟩⟩
  have sme := same_ev (notL 0 (notL 0 x)) x (by omega)
  rw [not_not cx, decide_eq_true rfl] at sme
  have w1 : wrap64 (sizeL x + sizeL y) = wrap64 (sizeL u + sizeL i) := by rw [t1]
  have w2 : wrap64 (sizeL x + sizeL (notL 0 x)) = 1114112 := by rw [t2]; exact w64 (by decide) (by decide)
  have w3 : wrap64 (sizeL m + sizeL i) = sizeL x := by rw [t3]; exact w64 (by omega) (by omega)
  refine Ev.bind eN ?_
  simp only [hh, Option.bind_some, beq_self_eq_true, if_true]
  refine Ev.bind sx (Ev.bind sy (Ev.bind su (Ev.bind si ?_)))
  simp only [if_pos w1]
  refine Ev.bind sx (Ev.bind eN (Ev.bind sn ?_))
  simp only [if_pos w2]
  refine Ev.bind sm (Ev.bind si (Ev.bind sx ?_))
  simp only [if_pos w3]
  refine Ev.bind eN (Ev.bind (not_ev _ cn (by omega)) ?_)
  rw [not_not cx]
  exact Ev.bind sme (Ev.now _)
theorem laws_j0 (l0 l1 : List S24) (r : Int) (h0 : l0.length ≤ 100) (h1 : l1.length ≤ 100) (hr0 : 0 ≤ r) (hr1 : r ≤ topL) : Ev (fun k => rubriclaw7_SetLaws.j0 k l0 l1 r false) true := by
  have lx := ofL_length l0
  have ly := ofL_length l1
  have cx := ofL_canon l0
  have cy := ofL_canon l1
  have ex := of_ev l0 (by omega)
  have ey := of_ev l1 (by omega)
  generalize ofL l0 = x at lx cx ex
  generalize ofL l1 = y at ly cy ey
  have eu := union_ev x y (by omega) (by omega)
  have cu := ofL_canon (x ++ y)
  have lu := ofL_length (x ++ y)
  rw [List.length_append] at lu
  have hu : ∀ r, hasP (ofL (x ++ y)) r ↔ hasP x r ∨ hasP y r := fun r => by
    rw [ofL_has, has_append]
    exact ⟨fun h => h.1, fun h => ⟨h, h.elim cx.bound cy.bound⟩⟩
  generalize ofL (x ++ y) = u at eu cu lu hu
  obtain ⟨i, ei, ci, li, hi⟩ := both_ev x y cx cy (by omega) (by omega)
  obtain ⟨m, em, cm, lm, hm⟩ := minus_ev x y cx cy (by omega) (by omega)
  have tail := fun b hb => laws_tail x y u i m r b hr0 hr1 hb cx cy cu ci cm (by omega) (by omega) (by omega) (by omega) (by omega) hu hi hm
  refine Ev_succ ?_
  simp only [rubriclaw7_SetLaws.j0, Bool.false_eq_true, if_false]
  refine Ev.bind ex (Ev.bind ey (Ev.bind eu (Ev.bind ei (Ev.bind em ?_))))
  simp only [has_ev x r (by omega), has_ev y r (by omega), has_ev u r (by omega), has_ev i r (by omega), has_ev m r (by omega), Option.bind_some]
  by_cases p : hasP x r
  · have t := tail true (decide_eq_true p).symm
    have e1 : decide (hasP u r) = true := decide_eq_true ((hu r).2 (.inl p))
    have e2 : decide (hasP i r) = decide (hasP y r) := decide_eq_decide.2 ((hi r).trans ⟨fun h => h.2, fun h => ⟨p, h⟩⟩)
    have e3 : decide (hasP m r) = !decide (hasP y r) := by
      rw [Bool.eq_iff_iff, decide_eq_true_iff, Bool.not_eq_true', decide_eq_false_iff_not, hm r]
      exact ⟨fun h => h.2, fun h => ⟨p, h⟩⟩
    simp only [decide_eq_true p, if_true, e1, e2, e3, beq_self_eq_true]
    exact t
  · have t := tail false (decide_eq_false p).symm
    have e1 : decide (hasP u r) = decide (hasP y r) := decide_eq_decide.2 ((hu r).trans ⟨fun h => h.elim (fun h => absurd h p) id, .inr⟩)
    have e2 : decide (hasP i r) = false := decide_eq_false (fun h => p ((hi r).1 h).1)
    have e3 : decide (hasP m r) = false := decide_eq_false (fun h => p ((hm r).1 h).1)
    simp only [decide_eq_false p, Bool.false_eq_true, if_false, e1, e2, e3, beq_self_eq_true, if_true]
    exact t
theorem laws_true (l0 l1 : List S24) (r : Int) : Ev (fun k => rubriclaw7_SetLaws.j0 k l0 l1 r true) true := by
  refine Ev_succ ?_
  simp only [rubriclaw7_SetLaws.j0, if_true]
  exact Ev.now _
theorem laws_ev (l0 l1 : List S24) (r : Int) : Ev (fun k => rubriclaw7_SetLaws.f k l0 l1 r) true := by
  have no := laws_true l0 l1 r
  unfold rubriclaw7_SetLaws.f
  refine Ev.bind known_ev ?_
  simp only [if_true]
  by_cases h0 : (l0.length : Int) > 100
  · simp only [if_pos h0]; exact no
  simp only [if_neg h0]
  by_cases h1 : (l1.length : Int) > 100
  · simp only [if_pos h1]; exact no
  simp only [if_neg h1]
  by_cases h2 : r < 0
  · simp only [if_pos h2]; exact no
  simp only [if_neg h2]
  by_cases h3 : r > 1114111
  · simp only [decide_eq_true h3]; exact no
  · simp only [decide_eq_false h3]
    exact laws_j0 l0 l1 r (by omega) (by omega) (by omega) (by unfold topL; omega)

end Go.Proofs.Ytjhmpippcndloaa.B
