import Derived.Test.YtnafjabpkbahdaaB6
import Derived.Test.YtnafjabpkbahdaaPrx11
import Derived.Test.YtnafjabpkbahdaaPrx12
namespace Go.Proofs.Ytnafjabpkbahdaa.B
open Go.RowKit Go.Proofs.Ytnafjabpkbahdaa Go.Proofs.Ytnafjabpkbahdaa.G Go.Proofs.Ytnafjabpkbahdaa.Pr Go.Proofs.YtnafjabpkbahdaaW.PrintWords Go.Proofs.YtnafjabpkbahdaaW.PrintLast
set_option linter.unusedVariables false
theorem radd_fin (S : Nat) (n0 : Bool) {row' : List Int} {M : Nat} (r1 : Dg row') (hM : M < row'.length) (hMS : M ≤ S) (hl : row'.length ≤ 4090) :
    ∃ (n'' : Bool) (l'' : List Int) (s'' : Nat), Ev (fun k => (rubricref5_canon.f k n0 row' (M : Int)).bind fun bt => (if (bt.2.1.length : Int) > 4096 then (some (false, ([] : List Int), (0 : Int), (3 : Int))) else (some (bt.1, bt.2.1, bt.2.2, 0)))) (n'', l'', (s'' : Int), 0) ∧ Can n'' l'' s'' ∧ vl S n'' l'' s'' = vl S n0 row' M ∧ s'' ≤ M := by
  obtain ⟨n'', l'', s'', c1, c2, c3, c4, c5⟩ := canon_eq S n0 row' M r1 (by omega) hMS (by omega) (by omega)
  refine ⟨n'', l'', s'', Ev.bind (rcanon_ev n0 row' M c1) ?_, c2, c3, c4⟩
  exact Ev.congr (f := fun _ => some (n'', l'', (s'' : Int), 0)) (fun k => if_neg (by show ¬ ((l''.length : Int) > 4096); omega)) (Ev.now _)
theorem scale_sub {x y c : Int} (hc : 0 < c) (h : 0 ≤ c * x - c * y) : 0 ≤ x - y := by
  by_cases hn : x - y < 0
  · exfalso
    have := Int.mul_neg_of_pos_of_neg hc hn
    rw [Int.mul_sub] at this
    omega
  · omega
theorem radd_j1 (n n' : Bool) {l m : List Int} {s t : Nat} (h : Bd l s) (h' : Bd m t) (S M Q : Nat) (hi : Int) (hM1 : s ≤ M) (hM2 : t ≤ M) (hMS : M ≤ S) (hMQ : M < Q) (hQ : (Q : Int) = hi + M + 1) (hQl : Q ≤ 4090)
    (hla : (dgs M l s).length < Q) (hlb : (dgs M m t).length < Q) (htot : 0 ≤ mag S l s - mag S m t) :
    ∃ (n'' : Bool) (l'' : List Int) (s'' : Nat), Ev (fun k => rubricref5_Add.j1 k hi (M : Int) (List.replicate Q 0) n n l s n' m t) (n'', l'', (s'' : Int), 0) ∧ Can n'' l'' s'' ∧
      vl S n'' l'' s'' = (if n = true then -(mag S l s - mag S m t) else mag S l s - mag S m t) ∧ s'' ≤ M := by
  have e1 := mag_scale l s (S := M) (S' := S) (by omega) (by omega)
  have e2 := mag_scale m t (S := M) (S' := S) (by omega) (by omega)
  have htot' : 0 ≤ mag M l s - mag M m t := by
    rw [e1, e2] at htot
    exact scale_sub (ten_pos (S - M)) htot
  obtain ⟨row', r1, r2, r3, r4⟩ := radd_l1 n n n' h h' (S := M) (by omega) (by omega) (by omega) hi Q (by omega) (by omega) htot' hla hlb Q (List.replicate Q 0) 0 0 (by omega) (by simp) (by rw [List.drop_of_length_le (by simp)]; exact Dg_nil) (Or.inl rfl) (by rw [List.drop_of_length_le (by simp)]; simp [rv])
  obtain ⟨n'', l'', s'', a1, a2, a3, a4⟩ := radd_fin S n (M := M) r1 (by omega) (by omega) (by omega)
  refine ⟨n'', l'', s'', ?_, a2, ?_, a4⟩
  · refine Ev.step (f := fun k => rubricref5_Add.l1 k hi (M : Int) (List.replicate Q 0) n 0 (-(M : Int)) n l s n' m t) (fun k => ?_) ?_
    · simp only [rubricref5_Add.j1]
      rw [w64 (x := -(M : Int)) (by omega) (by omega)]
    · have := r4 _ a1
      rwa [show ((0 : Nat) : Int) - (M : Int) = -(M : Int) by omega] at this
  · rw [a3]
    unfold vl
    have : mag S row' M = mag S l s - mag S m t := by
      show 10 ^ (S - M) * rv row'.reverse = _
      rw [r3, e1, e2, Int.mul_sub]
    rw [this]
theorem radd_ev {n n' : Bool} {l m : List Int} {s t : Nat} (S : Nat) (h : Can n l s) (h' : Can n' m t) (hS1 : s ≤ S) (hS2 : t ≤ S) (hlen : l.length + m.length ≤ 4000) :
    ∃ (n'' : Bool) (l'' : List Int) (s'' : Nat), Ev (fun k => rubricref5_Add.f k n l s n' m t) (n'', l'', (s'' : Int), 0) ∧ Can n'' l'' s'' ∧ vl S n'' l'' s'' = vl S n l s + vl S n' m t ∧ s'' ≤ max s t := by
  have bd := h.bd (by omega)
  have bd' := h'.bd (by omega)
  have hl := h.lt
  have hm := h'.lt
  obtain ⟨M, hM⟩ : ∃ M : Nat, M = max s t := ⟨_, rfl⟩
  obtain ⟨H, hH⟩ : ∃ H : Int, H = max ((l.length : Int) - s) ((m.length : Int) - t) := ⟨_, rfl⟩
  obtain ⟨Q, hQ⟩ : ∃ Q : Nat, (Q : Int) = H + M + 1 := ⟨(H + M + 1).toNat, by omega⟩
  have hla := dgs_length M l s
  have hlb := dgs_length M m t
  have e1 := mag_scale l s (S := M) (S' := S) (by omega) (by omega)
  have e2 := mag_scale m t (S := M) (S' := S) (by omega) (by omega)
  have ma := mag_nonneg (S := M) (s := s) h.dg
  have mb := mag_nonneg (S := M) (s := t) h'.dg
  have hQe : wrap64 (wrap64 (H + 1) + (M : Int)) = (Q : Int) := by
    rw [w64 (x := H + 1) (by omega) (by omega), w64 (by omega) (by omega)]
    omega
  have head : ∀ k, rubricref5_Add.f k n l s n' m t = (if (n == n') = true then (rubricref5_Add.l0 k H (M : Int) (List.replicate Q 0) n 0 (-(M : Int)) n l s n' m t) else ((rubricref5_size.f k n l s n' m t).bind fun t347 => (if t347 < 0 then (rubricref5_Add.j1 k H (M : Int) (List.replicate Q 0) n' n' m t n l s) else (rubricref5_Add.j1 k H (M : Int) (List.replicate Q 0) n n l s n' m t)))) := fun k => by
    unfold rubricref5_Add.f
    rw [high_eq n n' bd bd', show max (s : Int) (t : Int) = (M : Int) by omega, ← hH]
    simp only [Option.bind_some]
    rw [hQe, if_pos (by omega), Int.toNat_natCast, if_pos (by omega), w64 (x := -(M : Int)) (by omega) (by omega)]
  by_cases hn : n = n'
  · subst hn
    obtain ⟨row', r1, r2, r3, r4⟩ := radd_l0 n n n bd bd' (S := M) (by omega) (by omega) (by omega) H Q (by omega) (by omega) (by omega) (by omega) (by omega) Q (List.replicate Q 0) 0 0 (by omega) (by simp) (by rw [List.drop_of_length_le (by simp)]; exact Dg_nil) (Or.inl rfl) (by rw [List.drop_of_length_le (by simp)]; simp [rv])
    obtain ⟨n'', l'', s'', a1, a2, a3, a4⟩ := radd_fin S n (M := M) r1 (by omega) (by omega) (by omega)
    refine ⟨n'', l'', s'', Ev.congr (fun k => (head k).trans (if_pos (by simp))) ?_, a2, ?_, by omega⟩
    · have := r4 _ a1
      rwa [show ((0 : Nat) : Int) - (M : Int) = -(M : Int) by omega] at this
    · rw [a3]
      unfold vl
      have : mag S row' M = mag S l s + mag S m t := by
        show 10 ^ (S - M) * rv row'.reverse = _
        rw [r3, e1, e2, Int.mul_add]
      rw [this]
      cases n
      · simp
      · simp only [if_true]
        omega
  · have hb : ¬ (n == n') = true := by simpa using hn
    have hsz := rsize_ev n n' (S := S) bd bd' hS1 hS2 hl hm
    by_cases hlt : mag S l s - mag S m t < 0
    · rw [sg_neg hlt] at hsz
      obtain ⟨n'', l'', s'', a1, a2, a3, a4⟩ := radd_j1 n' n bd' bd S M Q H (by omega) (by omega) (by omega) (by omega) hQ (by omega) (by omega) (by omega) (by omega)
      refine ⟨n'', l'', s'', Ev.congr (fun k => (head k).trans (if_neg hb)) (Ev.bind hsz ?_), a2, ?_, by omega⟩
      · simp only [if_pos (show (-1 : Int) < 0 by decide)]
        exact a1
      · rw [a3]
        cases n <;> cases n' <;> simp [vl] at hn ⊢ <;> omega
    · have hnn : ¬ sg (mag S l s - mag S m t) < 0 := by
        rcases Int.lt_or_eq_of_le (Int.not_lt.1 hlt) with h1 | h1
        · rw [sg_pos h1]; decide
        · rw [← h1]; decide
      obtain ⟨n'', l'', s'', a1, a2, a3, a4⟩ := radd_j1 n n' bd bd' S M Q H (by omega) (by omega) (by omega) (by omega) hQ (by omega) (by omega) (by omega) (by omega)
      refine ⟨n'', l'', s'', Ev.congr (fun k => (head k).trans (if_neg hb)) (Ev.bind hsz ?_), a2, ?_, by omega⟩
      · simp only [if_neg hnn]
        exact a1
      · rw [a3]
        cases n <;> cases n' <;> simp [vl] at hn ⊢ <;> omega
theorem sg_bd (x : Int) : -1 ≤ sg x ∧ sg x ≤ 1 := by
  unfold sg
  split
  · decide
  · split <;> decide
theorem rcmp_ev {n n' : Bool} {l m : List Int} {s t : Nat} (S : Nat) (h : Can n l s) (h' : Can n' m t) (hS1 : s ≤ S) (hS2 : t ≤ S) (hl : l.length ≤ 1048576) (hm : m.length ≤ 1048576) :
    Ev (fun k => rubricref5_Cmp.f k n l s n' m t) (sg (vl S n l s - vl S n' m t)) := by
  have bd := h.bd hl
  have bd' := h'.bd hm
  have s1 := rsize_ev n n' (S := S) bd bd' hS1 hS2 h.lt h'.lt
  have q1 := h.neg_iff (S := S)
  have q2 := h'.neg_iff (S := S)
  cases n with
  | true =>
    have a1 := q1.1 rfl
    cases n' with
    | true =>
      have : vl S true l s - vl S true m t = -(mag S l s - mag S m t) := by simp [vl]; omega
      rw [this, sg_opp]
      have hb := sg_bd (mag S l s - mag S m t)
      refine Ev.congr (f := fun k => (rubricref5_size.f k true l s true m t).bind fun t365 => some (wrap64 (-t365))) (fun k => rfl) (Ev.bind s1 ?_)
      rw [w64 (by omega) (by omega)]
      exact Ev.now _
    | false =>
      have b1 := q2.2 rfl
      rw [sg_neg (by omega)]
      exact Ev.congr (f := fun k => some (-1)) (fun k => rfl) (Ev.now _)
  | false =>
    have a1 := q1.2 rfl
    cases n' with
    | true =>
      have b1 := q2.1 rfl
      rw [sg_pos (by omega)]
      exact Ev.congr (f := fun k => some 1) (fun k => rfl) (Ev.now _)
    | false =>
      have : vl S false l s - vl S false m t = mag S l s - mag S m t := by simp [vl]
      rw [this]
      exact Ev.congr (f := fun k => (rubricref5_size.f k false l s false m t).bind fun t365 => some t365) (fun k => rfl) (Ev.bind s1 (Ev.now _))
/-! Right holds of what is canonical -/
theorem right_j3 {n : Bool} {l : List Int} {s : Nat} (h : Can n l s) : Ev (fun k => dec_Dec_Right.j3 k false n l (s : Int)) true := by
  refine Ev_succ ?_
  simp only [dec_Dec_Right.j3, Bool.false_eq_true, if_false]
  cases n with
  | false => simp only [Bool.false_eq_true, if_false]; exact Ev.now _
  | true =>
    have hz : l.all (· == 0) = false := by
      obtain ⟨x, hx, h0⟩ := h.sign rfl
      cases e : l.all (· == 0) with
      | false => rfl
      | true => exact absurd (all_zero e x hx) h0
    simp only [if_true, dec_zero.f, hz, Option.bind_some, Bool.false_eq_true, if_false]
    exact Ev.now _
theorem right_j2 {n : Bool} {l : List Int} {s : Nat} (h : Can n l s) (hl : l.length ≤ 4096) : Ev (fun k => dec_Dec_Right.j2 k (l.length : Int) false n l (s : Int)) true := by
  have hlt := h.lt
  refine Ev_succ ?_
  simp only [dec_Dec_Right.j2, Bool.false_eq_true, if_false]
  by_cases h0 : (s : Int) > 0
  · simp only [if_pos h0]
    rw [w64 (x := (l.length : Int) - 1) (by omega) (by omega)]
    simp only [if_pos (show 0 ≤ (l.length : Int) - 1 by omega), if_pos (show (l.length : Int) - 1 < (l.length : Int) by omega)]
    have hne := h.tail (by omega)
    have e : (rd l ((l.length : Int) - 1) == 0) = false := by
      unfold rd
      rw [show ((l.length : Int) - 1).toNat = l.length - 1 by omega]
      rw [List.getLast?_eq_getElem?] at hne
      rw [List.getD_eq_getElem?_getD]
      rw [List.getElem?_eq_getElem (by omega)] at hne ⊢
      simpa using hne
    rw [e]
    exact right_j3 h
  · simp only [if_neg h0]
    exact right_j3 h
theorem right_l0 {n : Bool} {l : List Int} {s : Nat} (h : Can n l s) (hl : l.length ≤ 4096) : ∀ (d i : Nat), i + d = l.length → Ev (fun k => dec_Dec_Right.l0 k (l.length : Int) l (l.length : Int) (i : Int) n l (s : Int)) true
  | 0, i, hi => by
    have hlt := h.lt
    refine Ev_succ ?_
    simp only [dec_Dec_Right.l0, if_neg (show ¬ (i : Int) < (l.length : Int) by omega)]
    rw [w64 (x := (l.length : Int) - (s : Int)) (by omega) (by omega)]
    by_cases h1 : (l.length : Int) - (s : Int) > 1
    · simp only [if_pos h1, if_pos (show (0 : Int) < (l.length : Int) by omega)]
      have hne := h.head (by omega)
      have e : (rd l 0 == 0) = false := by
        unfold rd
        rw [show (0 : Int).toNat = 0 from rfl]
        cases l with
        | nil => simp at hlt
        | cons x t => simpa using hne
      rw [e]
      exact right_j2 h hl
    · simp only [if_neg h1]
      exact right_j2 h hl
  | d + 1, i, hi => by
    refine Ev_succ ?_
    have hd := (Dg_getD h.dg i).2
    have e : rd l (i : Int) = l.getD i 0 := by
      unfold rd
      rw [Int.toNat_natCast]
    simp only [dec_Dec_Right.l0, if_pos (show (i : Int) < (l.length : Int) by omega), if_pos (show (0 : Int) ≤ (i : Int) by omega), e, if_neg (show ¬ l.getD i 0 > 9 by omega)]
    rw [w64 (x := (i : Int) + 1) (by omega) (by omega), show (i : Int) + 1 = ((i + 1 : Nat) : Int) by omega]
    exact right_l0 h hl d (i + 1) (by omega)
theorem right_ev {n : Bool} {l : List Int} {s : Nat} (h : Can n l s) (hl : l.length ≤ 4096) : Ev (fun k => dec_Dec_Right.f k n l (s : Int)) true := by
  have hlt := h.lt
  unfold dec_Dec_Right.f
  simp only [if_neg (show ¬ (l.length : Int) < 1 by omega), if_neg (show ¬ (l.length : Int) > 4096 by omega), if_neg (show ¬ (s : Int) < 0 by omega), decide_eq_false (show ¬ (s : Int) ≥ (l.length : Int) by omega)]
  refine Ev_succ ?_
  simp only [dec_Dec_Right.j0, Bool.false_eq_true, if_false]
  simpa using right_l0 h hl l.length 0 (by omega)
/-! Texts tell numbers apart -/
theorem dby_toNat {x : Int} (h : 0 ≤ x ∧ x ≤ 9) : (dby x).toNat = x.toNat + 48 := by
  unfold dby
  rw [Nat.toUInt8_eq, UInt8.toNat_ofNat']
  omega
theorem dby_ne {x : Int} (h : 0 ≤ x ∧ x ≤ 9) : dby x ≠ 46 ∧ dby x ≠ 45 := by
  have := dby_toNat h
  constructor <;> (intro e; rw [e] at this; first | omega | (simp at this; done) | (simp at this; omega))
theorem map_dby_inj : ∀ {a b : List Int}, Dg a → Dg b → a.map dby = b.map dby → a = b
  | [], [], _, _, _ => rfl
  | [], _ :: _, _, _, h => by simp at h
  | _ :: _, [], _, _, h => by simp at h
  | x :: a, y :: b, ha, hb, h => by
    obtain ⟨hx, ha⟩ := Dg_cons.1 ha
    obtain ⟨hy, hb⟩ := Dg_cons.1 hb
    simp only [List.map_cons, List.cons.injEq] at h
    have e := congrArg UInt8.toNat h.1
    rw [dby_toNat hx, dby_toNat hy] at e
    rw [map_dby_inj ha hb h.2, show x = y by omega]
theorem txt_lo (l : List Int) (p : Nat) : ∀ k, k ≤ p → k ≤ l.length → txt l (p : Int) k = (l.take k).map dby
  | 0, _, _ => by simp [txt]
  | k + 1, h, hl => by
    simp only [txt]
    rw [txt_lo l p k (by omega) (by omega), if_neg (by omega), List.take_succ_eq_append_getElem (by omega), List.getD_eq_getElem?_getD, List.getElem?_eq_getElem (by omega)]
    simp only [List.map_append, List.map_cons, List.map_nil, List.nil_append, Option.getD_some]
theorem txt_hi (l : List Int) (p : Nat) (h0 : 0 < p) : ∀ j, p + j + 1 ≤ l.length → txt l (p : Int) (p + j + 1) = (l.take p).map dby ++ 46 :: ((l.drop p).take (j + 1)).map dby
  | 0, hl => by
    show txt l (p : Int) p ++ ((if 0 < p ∧ (p : Int) = (p : Int) then [46] else []) ++ [dby (l.getD p 0)]) = _
    rw [txt_lo l p p (Nat.le_refl _) (by omega), if_pos ⟨h0, rfl⟩, List.getD_eq_getElem?_getD, List.getElem?_eq_getElem (by omega), List.drop_eq_getElem_cons (show p < l.length by omega)]
    simp only [Nat.zero_add, List.take_succ_cons, List.take_zero, List.map_cons, List.map_nil, Option.getD_some, List.cons_append, List.nil_append]
  | j + 1, hl => by
    rw [show p + (j + 1) + 1 = (p + j + 1) + 1 by omega, txt, txt_hi l p h0 j (by omega), if_neg (by omega), List.getD_eq_getElem?_getD, List.getElem?_eq_getElem (by omega), List.take_succ_eq_append_getElem (i := j + 1) (by simp; omega)]
    simp [Nat.add_assoc]
theorem txt_all {n : Bool} {l : List Int} {s : Nat} (h : Can n l s) : txt l ((l.length : Int) - s) l.length = (l.take (l.length - s)).map dby ++ (if 0 < s then [46] else []) ++ (l.drop (l.length - s)).map dby := by
  have hlt := h.lt
  rw [show (l.length : Int) - s = ((l.length - s : Nat) : Int) by omega]
  by_cases h0 : 0 < s
  · have := txt_hi l (l.length - s) (by omega) (s - 1) (by omega)
    rw [show l.length - s + (s - 1) + 1 = l.length by omega, show s - 1 + 1 = s by omega] at this
    rw [this, if_pos h0, List.take_of_length_le (l := l.drop (l.length - s)) (by simp; omega)]
    simp
  · obtain rfl : s = 0 := by omega
    rw [if_neg h0, txt_lo l _ l.length (by omega) (by omega)]
    simp
theorem Dg_no46 {a : List Int} (h : Dg a) : ∀ x, x ∈ a.map dby → (x != 46) = true := by
  intro x hx
  obtain ⟨y, hy, rfl⟩ := List.mem_map.1 hx
  simpa using (dby_ne (h y hy)).1
theorem txt_filter {n : Bool} {l : List Int} {s : Nat} (h : Can n l s) : (txt l ((l.length : Int) - s) l.length).filter (· != 46) = l.map dby := by
  have e1 : ((l.take (l.length - s)).map dby).filter (· != 46) = (l.take (l.length - s)).map dby := List.filter_eq_self.2 (Dg_no46 (Dg_take h.dg _))
  have e2 : ((l.drop (l.length - s)).map dby).filter (· != 46) = (l.drop (l.length - s)).map dby := List.filter_eq_self.2 (Dg_no46 (Dg_drop h.dg _))
  have e3 : ((if 0 < s then [46] else []) : List UInt8).filter (· != 46) = [] := by split <;> rfl
  rw [txt_all h, List.filter_append, List.filter_append, e1, e2, e3, List.append_nil, ← List.map_append, List.take_append_drop]
theorem txt_front {n : Bool} {l : List Int} {s : Nat} (h : Can n l s) : (txt l ((l.length : Int) - s) l.length).takeWhile (· != 46) = (l.take (l.length - s)).map dby := by
  have e1 := Dg_no46 (Dg_take h.dg (l.length - s))
  rw [txt_all h, List.append_assoc, List.takeWhile_append_of_pos e1]
  by_cases h0 : 0 < s
  · simp [h0]
  · obtain rfl : s = 0 := by omega
    simp
theorem txt_head {n : Bool} {l : List Int} {s : Nat} (h : Can n l s) : ∃ b t, txt l ((l.length : Int) - s) l.length = b :: t ∧ b ≠ 45 := by
  have hlt := h.lt
  rw [txt_all h]
  cases l with
  | nil => simp at hlt
  | cons x t =>
    obtain ⟨hx, _⟩ := Dg_cons.1 h.dg
    obtain ⟨q, hq⟩ : ∃ q, (x :: t).length - s = q + 1 := ⟨(x :: t).length - s - 1, by omega⟩
    rw [hq]
    exact ⟨dby x, _, by simp only [List.take_succ_cons, List.map_cons, List.cons_append]; rfl, (dby_ne hx).2⟩
theorem text_inj {n n' : Bool} {l m : List Int} {s t : Nat} (h : Can n l s) (h' : Can n' m t) (e : sgn1 n ++ txt l ((l.length : Int) - s) l.length = sgn1 n' ++ txt m ((m.length : Int) - t) m.length) : n = n' ∧ l = m ∧ s = t := by
  obtain ⟨b, u, hb, hb2⟩ := txt_head h
  obtain ⟨b', u', hb', hb2'⟩ := txt_head h'
  have hn : n = n' ∧ txt l ((l.length : Int) - s) l.length = txt m ((m.length : Int) - t) m.length := by
    cases n <;> cases n' <;> simp only [sgn1, Bool.false_eq_true, if_false, if_true, List.nil_append] at e
    · exact ⟨rfl, e⟩
    · rw [hb] at e
      simp only [List.cons_append, List.cons.injEq] at e
      exact absurd e.1 hb2
    · rw [hb'] at e
      simp only [List.cons_append, List.cons.injEq] at e
      exact absurd e.1.symm hb2'
    · simp only [List.cons_append, List.nil_append, List.cons.injEq, true_and] at e
      exact ⟨rfl, e⟩
  obtain ⟨hn, e⟩ := hn
  have f := txt_filter h
  rw [e, txt_filter h'] at f
  obtain rfl := map_dby_inj h'.dg h.dg f
  have g := txt_front h
  rw [e, txt_front h'] at g
  have := congrArg List.length g
  simp only [List.length_map, List.length_take] at this
  have := h.lt
  have := h'.lt
  exact ⟨hn, rfl, by omega⟩

end Go.Proofs.Ytnafjabpkbahdaa.B
