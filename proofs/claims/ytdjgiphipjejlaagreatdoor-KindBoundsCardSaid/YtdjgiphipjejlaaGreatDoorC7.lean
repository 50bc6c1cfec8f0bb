import Derived.Test.YtdjgiphipjejlaaGreatDoorC6
import Derived.Test.YtdjgiphipjejlaaGreatDoorPrx6
namespace Go.Proofs.YtdjgiphipjejlaaGreatDoor.B
open Go.RowKit Go.Proofs.YtdjgiphipjejlaaGreatDoor Go.Proofs.YtdjgiphipjejlaaGreatDoor.G Go.Proofs.YtdjgiphipjejlaaGreatDoor.Pr Go.Proofs.YtdjgiphipjejlaaGreatDoorW.PrintWords Go.Proofs.YtdjgiphipjejlaaGreatDoorW.PrintLast
set_option linter.unusedVariables false
set_option linter.unusedSimpArgs false
/-! ### KindBounds -/
theorem dd (j : Nat) : ∀ u, u < 10 ^ (j + 1) → (∀ b ∈ Lib.decDigits u, 48 ≤ b.toNat ∧ b.toNat ≤ 57) ∧ (Lib.decDigits u).length ≤ j + 1 ∧ 0 < (Lib.decDigits u).length ∧ rv (DD u).reverse = u := by
  induction j with
  | zero =>
    intro u h
    have h10 : u < 10 := by simpa using h
    have e : Lib.decDigits u = [UInt8.ofNat (48 + u)] := by rw [Lib.decDigits, dif_pos h10]
    have et : (UInt8.ofNat (48 + u)).toNat = 48 + u := ofNat_toNat (by omega)
    unfold DD
    rw [e]
    refine ⟨?_, by simp, by simp, ?_⟩
    · intro b hb; rw [List.mem_singleton.mp hb, et]; omega
    · simp [digl, rv]; omega
  | succ j ih =>
    intro u h
    by_cases h10 : u < 10
    · have e : Lib.decDigits u = [UInt8.ofNat (48 + u)] := by rw [Lib.decDigits, dif_pos h10]
      have et : (UInt8.ofNat (48 + u)).toNat = 48 + u := ofNat_toNat (by omega)
      unfold DD
      rw [e]
      refine ⟨?_, by simp, by simp, ?_⟩
      · intro b hb; rw [List.mem_singleton.mp hb, et]; omega
      · simp [digl, rv]; omega
    · have e : Lib.decDigits u = Lib.decDigits (u / 10) ++ [UInt8.ofNat (48 + u % 10)] := by rw [Lib.decDigits, dif_neg h10]
      have et : (UInt8.ofNat (48 + u % 10)).toNat = 48 + u % 10 := ofNat_toNat (by omega)
      rw [Nat.pow_succ] at h
      obtain ⟨i1, i2, i3, i4⟩ := ih (u / 10) (by omega)
      unfold DD at i4 ⊢
      rw [e]
      refine ⟨?_, by simp; omega, by simp, ?_⟩
      · intro b hb
        rcases List.mem_append.mp hb with hb | hb
        · exact i1 b hb
        · rw [List.mem_singleton.mp hb, et]; omega
      · rw [digl_app, List.reverse_append]
        have e1 : (digl [UInt8.ofNat (48 + u % 10)]).reverse = [((u % 10 : Nat) : Int)] := by simp [digl, et]; omega
        rw [e1, List.singleton_append, rv, i4]
        omega
theorem DD_dg {u : Nat} (h : u < 10 ^ 20) : Dg (DD u) ∧ (DD u).length ≤ 20 ∧ 0 < (DD u).length ∧ rv (DD u).reverse = u := by
  obtain ⟨i1, i2, i3, i4⟩ := dd 19 u h
  refine ⟨?_, by simpa [DD, digl] using i2, by simpa [DD, digl] using i3, i4⟩
  intro x hx
  obtain ⟨b, hb, rfl⟩ := List.mem_map.mp hx
  have := i1 b hb
  omega

theorem isDs_dd (n : Int) (h : n.natAbs < 10 ^ 20) : IsDs (Lib.decDigits n.natAbs) ∧ 0 < (Lib.decDigits n.natAbs).length ∧ (Lib.decDigits n.natAbs).length ≤ 20 ∧ (if decide (n < 0) = true then - rvD (Lib.decDigits n.natAbs) else rvD (Lib.decDigits n.natAbs)) = n := by
  obtain ⟨h1, h2, h3, h4⟩ := dd 19 n.natAbs h
  have h5 : rvD (Lib.decDigits n.natAbs) = (n.natAbs : Int) := h4
  refine ⟨h1, h3, h2, ?_⟩
  rw [h5]
  by_cases hn : n < 0
  · rw [if_pos (by simpa using hn)]; omega
  · rw [if_neg (by simpa using hn)]; omega
/-- A kind of number with its bounds. -/
def KB (kk : Int) (ol oh : Option Int) : Prop := (11 ≤ kk ∧ kk ≤ 23) ∧ Ev (fun k => kind_Prim.f k kk) 10 ∧ ∃ lo hi, kind_bounds.f kk = some (lo, hi) ∧ Bnd lo ol ∧ Bnd hi oh
theorem kb12 : KB 12 none (some (0)) := ⟨by decide, Ev.of (kind_Prim.mono _) (k := 60) (by kernel_rfl), (⟨#[]⟩ : ByteArray), (txtB false [48]), by kernel_rfl, bnd_none, (bnd_of false [48] (0) (isDs_all (by kernel_rfl)) (by decide) (by decide) (by kernel_rfl))⟩
theorem kb13 : KB 13 none (some (-1)) := ⟨by decide, Ev.of (kind_Prim.mono _) (k := 60) (by kernel_rfl), (⟨#[]⟩ : ByteArray), (txtB true [49]), by kernel_rfl, bnd_none, (bnd_of true [49] (-1) (isDs_all (by kernel_rfl)) (by decide) (by decide) (by kernel_rfl))⟩
theorem kb14 : KB 14 (some (0)) none := ⟨by decide, Ev.of (kind_Prim.mono _) (k := 60) (by kernel_rfl), (txtB false [48]), (⟨#[]⟩ : ByteArray), by kernel_rfl, (bnd_of false [48] (0) (isDs_all (by kernel_rfl)) (by decide) (by decide) (by kernel_rfl)), bnd_none⟩
theorem kb15 : KB 15 (some (1)) none := ⟨by decide, Ev.of (kind_Prim.mono _) (k := 60) (by kernel_rfl), (txtB false [49]), (⟨#[]⟩ : ByteArray), by kernel_rfl, (bnd_of false [49] (1) (isDs_all (by kernel_rfl)) (by decide) (by decide) (by kernel_rfl)), bnd_none⟩
theorem kb16 : KB 16 (some (-9223372036854775808)) (some (9223372036854775807)) := ⟨by decide, Ev.of (kind_Prim.mono _) (k := 60) (by kernel_rfl), (txtB true [57, 50, 50, 51, 51, 55, 50, 48, 51, 54, 56, 53, 52, 55, 55, 53, 56, 48, 56]), (txtB false [57, 50, 50, 51, 51, 55, 50, 48, 51, 54, 56, 53, 52, 55, 55, 53, 56, 48, 55]), by kernel_rfl, (bnd_of true [57, 50, 50, 51, 51, 55, 50, 48, 51, 54, 56, 53, 52, 55, 55, 53, 56, 48, 56] (-9223372036854775808) (isDs_all (by kernel_rfl)) (by decide) (by decide) (by kernel_rfl)), (bnd_of false [57, 50, 50, 51, 51, 55, 50, 48, 51, 54, 56, 53, 52, 55, 55, 53, 56, 48, 55] (9223372036854775807) (isDs_all (by kernel_rfl)) (by decide) (by decide) (by kernel_rfl))⟩
theorem kb17 : KB 17 (some (-2147483648)) (some (2147483647)) := ⟨by decide, Ev.of (kind_Prim.mono _) (k := 60) (by kernel_rfl), (txtB true [50, 49, 52, 55, 52, 56, 51, 54, 52, 56]), (txtB false [50, 49, 52, 55, 52, 56, 51, 54, 52, 55]), by kernel_rfl, (bnd_of true [50, 49, 52, 55, 52, 56, 51, 54, 52, 56] (-2147483648) (isDs_all (by kernel_rfl)) (by decide) (by decide) (by kernel_rfl)), (bnd_of false [50, 49, 52, 55, 52, 56, 51, 54, 52, 55] (2147483647) (isDs_all (by kernel_rfl)) (by decide) (by decide) (by kernel_rfl))⟩
theorem kb18 : KB 18 (some (-32768)) (some (32767)) := ⟨by decide, Ev.of (kind_Prim.mono _) (k := 60) (by kernel_rfl), (txtB true [51, 50, 55, 54, 56]), (txtB false [51, 50, 55, 54, 55]), by kernel_rfl, (bnd_of true [51, 50, 55, 54, 56] (-32768) (isDs_all (by kernel_rfl)) (by decide) (by decide) (by kernel_rfl)), (bnd_of false [51, 50, 55, 54, 55] (32767) (isDs_all (by kernel_rfl)) (by decide) (by decide) (by kernel_rfl))⟩
theorem kb19 : KB 19 (some (-128)) (some (127)) := ⟨by decide, Ev.of (kind_Prim.mono _) (k := 60) (by kernel_rfl), (txtB true [49, 50, 56]), (txtB false [49, 50, 55]), by kernel_rfl, (bnd_of true [49, 50, 56] (-128) (isDs_all (by kernel_rfl)) (by decide) (by decide) (by kernel_rfl)), (bnd_of false [49, 50, 55] (127) (isDs_all (by kernel_rfl)) (by decide) (by decide) (by kernel_rfl))⟩
theorem kb20 : KB 20 (some (0)) (some (18446744073709551615)) := ⟨by decide, Ev.of (kind_Prim.mono _) (k := 60) (by kernel_rfl), (txtB false [48]), (txtB false [49, 56, 52, 52, 54, 55, 52, 52, 48, 55, 51, 55, 48, 57, 53, 53, 49, 54, 49, 53]), by kernel_rfl, (bnd_of false [48] (0) (isDs_all (by kernel_rfl)) (by decide) (by decide) (by kernel_rfl)), (bnd_of false [49, 56, 52, 52, 54, 55, 52, 52, 48, 55, 51, 55, 48, 57, 53, 53, 49, 54, 49, 53] (18446744073709551615) (isDs_all (by kernel_rfl)) (by decide) (by decide) (by kernel_rfl))⟩
theorem kb21 : KB 21 (some (0)) (some (4294967295)) := ⟨by decide, Ev.of (kind_Prim.mono _) (k := 60) (by kernel_rfl), (txtB false [48]), (txtB false [52, 50, 57, 52, 57, 54, 55, 50, 57, 53]), by kernel_rfl, (bnd_of false [48] (0) (isDs_all (by kernel_rfl)) (by decide) (by decide) (by kernel_rfl)), (bnd_of false [52, 50, 57, 52, 57, 54, 55, 50, 57, 53] (4294967295) (isDs_all (by kernel_rfl)) (by decide) (by decide) (by kernel_rfl))⟩
theorem kb22 : KB 22 (some (0)) (some (65535)) := ⟨by decide, Ev.of (kind_Prim.mono _) (k := 60) (by kernel_rfl), (txtB false [48]), (txtB false [54, 53, 53, 51, 53]), by kernel_rfl, (bnd_of false [48] (0) (isDs_all (by kernel_rfl)) (by decide) (by decide) (by kernel_rfl)), (bnd_of false [54, 53, 53, 51, 53] (65535) (isDs_all (by kernel_rfl)) (by decide) (by decide) (by kernel_rfl))⟩
theorem kb23 : KB 23 (some (0)) (some (255)) := ⟨by decide, Ev.of (kind_Prim.mono _) (k := 60) (by kernel_rfl), (txtB false [48]), (txtB false [50, 53, 53]), by kernel_rfl, (bnd_of false [48] (0) (isDs_all (by kernel_rfl)) (by decide) (by decide) (by kernel_rfl)), (bnd_of false [50, 53, 53] (255) (isDs_all (by kernel_rfl)) (by decide) (by decide) (by kernel_rfl))⟩
theorem parse_ev (kk : Int) (ol oh : Option Int) (h : KB kk ol oh) (neg : Bool) (ds : List UInt8) (hd : IsDs ds) (h0 : 0 < ds.length) (hl : ds.length ≤ 20) :
    ∃ p : PR, Ev (fun k => kind_Parse.f k kk (txtB neg ds)) p ∧ (p.2.2.2.2.2.2.2.2.2.2.2.2.2.2.2.2 == 0) = inB ol oh (if neg = true then - rvD ds else rvD ds) := by
  obtain ⟨hk, h10, lo, hi, hb, bl, bh⟩ := h
  obtain ⟨n, l, hn⟩ := number_ev kk (by omega) neg ds hd h0 hl lo hi hb ol oh bl bh
  have hw := words_txt neg ds hd h0 hl
  generalize inB ol oh (if neg = true then - rvD ds else rvD ds) = W at hn ⊢
  refine ⟨if W = true then (10, ⟨#[]⟩, n, l, 0, 0, 0, 0, 0, 0, 0, false, 0, 0, 0, 0, 0) else (0, ⟨#[]⟩, false, [], 0, 0, 0, 0, 0, 0, 0, false, 0, 0, 0, 0, 2), ?_, by cases W <;> rfl⟩
  unfold kind_Parse.f
  simp only [if_pos hk]
  refine Ev.bind hw ?_
  try dsimp only
  refine Ev.bind h10 ?_
  simp only [if_true]
  refine Ev.bind hn ?_
  try dsimp only
  cases W
  · exact Ev.now _
  · exact Ev.now _
theorem kp (kk : Int) (ol oh : Option Int) (h : KB kk ol oh) (n : Int) (hn : n.natAbs < 10 ^ 20) :
    ∃ p : PR, Ev (fun k => kind_Parse.f k kk (txtB (decide (n < 0)) (Lib.decDigits n.natAbs))) p ∧ (p.2.2.2.2.2.2.2.2.2.2.2.2.2.2.2.2 == 0) = inB ol oh n := by
  obtain ⟨h1, h2, h3, h4⟩ := isDs_dd n hn
  obtain ⟨p, e, q⟩ := parse_ev kk ol oh h (decide (n < 0)) _ h1 h2 h3
  rw [h4] at q
  exact ⟨p, e, q⟩
theorem l1_step (n : Int) (s : ByteArray) (t : List Int) (ht : (t.length : Int) = 4) (i kk b i' : Int) (h0 : 0 ≤ i) (hi : i < 4) (hk : wrap64 (20 + i) = kk) (hi' : wrap64 (i + 1) = i') (hb : rd t i = b) (p : PR) (e : Ev (fun k => kind_Parse.f k kk s) p) (q : (p.2.2.2.2.2.2.2.2.2.2.2.2.2.2.2.2 == 0) = (decide (0 ≤ n) && decide (n ≤ b))) (hr : Ev (fun k => rubriclaw11_KindBounds.l1 k n s t i') true) :
    Ev (fun k => rubriclaw11_KindBounds.l1 k n s t i) true := by
  refine Ev_succ ?_
  simp only [rubriclaw11_KindBounds.l1, if_pos hi, hk, hi', hb]
  refine Ev.bind e ?_
  try dsimp only
  have hl : i < (t.length : Int) := by omega
  by_cases hn : n ≥ 0
  · have hq : ¬ ((p.2.2.2.2.2.2.2.2.2.2.2.2.2.2.2.2 == 0) != decide (n ≤ b)) = true := by
      rw [q, decide_eq_true (show 0 ≤ n from hn), Bool.true_and]
      simp
    simp only [if_pos hn, if_pos h0, if_pos hl, if_neg hq]
    exact hr
  · have hq : ¬ ((p.2.2.2.2.2.2.2.2.2.2.2.2.2.2.2.2 == 0) != false) = true := by
      rw [q, decide_eq_false (show ¬ 0 ≤ n from hn), Bool.false_and]
      decide
    simp only [if_neg hn, if_neg hq]
    exact hr
theorem l0_step (n : Int) (s : ByteArray) (t u : List Int) (ht : (t.length : Int) = 4) (hu : (u.length : Int) = 4) (i kk a b i' : Int) (h0 : 0 ≤ i) (hi : i < 4) (hk : wrap64 (16 + i) = kk) (hi' : wrap64 (i + 1) = i') (ha : rd t i = a) (hb : rd u i = b) (p : PR) (e : Ev (fun k => kind_Parse.f k kk s) p) (q : (p.2.2.2.2.2.2.2.2.2.2.2.2.2.2.2.2 == 0) = (decide (a ≤ n) && decide (n ≤ b))) (hr : Ev (fun k => rubriclaw11_KindBounds.l0 k n s t u i') true) :
    Ev (fun k => rubriclaw11_KindBounds.l0 k n s t u i) true := by
  refine Ev_succ ?_
  simp only [rubriclaw11_KindBounds.l0, if_pos hi, hk, hi', ha, hb]
  refine Ev.bind e ?_
  try dsimp only
  have hl : i < (t.length : Int) := by omega
  have hl' : i < (u.length : Int) := by omega
  by_cases hn : n ≥ a
  · have hq : ¬ ((p.2.2.2.2.2.2.2.2.2.2.2.2.2.2.2.2 == 0) != decide (n ≤ b)) = true := by
      rw [q, decide_eq_true (show a ≤ n from hn), Bool.true_and]
      simp
    simp only [if_pos hn, if_pos h0, if_pos hl, if_pos hl', if_neg hq]
    exact hr
  · have hq : ¬ ((p.2.2.2.2.2.2.2.2.2.2.2.2.2.2.2.2 == 0) != false) = true := by
      rw [q, decide_eq_false (show ¬ a ≤ n from hn), Bool.false_and]
      decide
    simp only [if_pos h0, if_pos hl, if_neg hn, if_neg hq]
    exact hr
theorem law_end (n : Int) (s : ByteArray) (t : List Int) (p1 p2 p3 p4 : PR) (e1 : Ev (fun k => kind_Parse.f k 12 s) p1) (e2 : Ev (fun k => kind_Parse.f k 13 s) p2) (e3 : Ev (fun k => kind_Parse.f k 14 s) p3) (e4 : Ev (fun k => kind_Parse.f k 15 s) p4)
    (q1 : (p1.2.2.2.2.2.2.2.2.2.2.2.2.2.2.2.2 == 0) = decide (n ≤ 0)) (q2 : (p2.2.2.2.2.2.2.2.2.2.2.2.2.2.2.2.2 == 0) = decide (n < 0)) (q3 : (p3.2.2.2.2.2.2.2.2.2.2.2.2.2.2.2.2 == 0) = decide (n ≥ 0)) (q4 : (p4.2.2.2.2.2.2.2.2.2.2.2.2.2.2.2.2 == 0) = decide (n > 0)) :
    Ev (fun k => rubriclaw11_KindBounds.l1 k n s t 4) true := by
  refine Ev_succ ?_
  simp only [rubriclaw11_KindBounds.l1, if_neg (show ¬ (4 : Int) < 4 by decide)]
  refine Ev.bind e1 (Ev.bind e2 (Ev.bind e3 (Ev.bind e4 ?_)))
  try dsimp only
  rw [q1, q2, q3, q4]
  simp only [beq_self_eq_true, if_true]
  exact Ev.now _
theorem law_kb (n : Int) (h1 : -9223372036854775808 ≤ n) (h2 : n ≤ 9223372036854775807) : Ev (fun k => rubriclaw11_KindBounds.f k n) true := by
  have hn : n.natAbs < 10 ^ 20 := by
    have : n.natAbs ≤ 9223372036854775808 := by omega
    exact Nat.lt_of_le_of_lt this (by decide)

  obtain ⟨p12, e12, q12⟩ := kp 12 _ _ kb12 n hn
  obtain ⟨p13, e13, q13⟩ := kp 13 _ _ kb13 n hn
  obtain ⟨p14, e14, q14⟩ := kp 14 _ _ kb14 n hn
  obtain ⟨p15, e15, q15⟩ := kp 15 _ _ kb15 n hn
  obtain ⟨p16, e16, q16⟩ := kp 16 _ _ kb16 n hn
  obtain ⟨p17, e17, q17⟩ := kp 17 _ _ kb17 n hn
  obtain ⟨p18, e18, q18⟩ := kp 18 _ _ kb18 n hn
  obtain ⟨p19, e19, q19⟩ := kp 19 _ _ kb19 n hn
  obtain ⟨p20, e20, q20⟩ := kp 20 _ _ kb20 n hn
  obtain ⟨p21, e21, q21⟩ := kp 21 _ _ kb21 n hn
  obtain ⟨p22, e22, q22⟩ := kp 22 _ _ kb22 n hn
  obtain ⟨p23, e23, q23⟩ := kp 23 _ _ kb23 n hn
  obtain ⟨s, hs⟩ : ∃ s, txtB (decide (n < 0)) (Lib.decDigits n.natAbs) = s := ⟨_, rfl⟩
  rw [hs] at e12 e13 e14 e15 e16 e17 e18 e19 e20 e21 e22 e23
  have hd := decimal_ev n h1 h2
  rw [show mkB (sgn (decide (n < 0)) ++ Lib.decDigits n.natAbs) = s from hs] at hd
  have last : Ev (fun k => rubriclaw11_KindBounds.l1 k n s [9223372036854775807, 4294967295, 65535, 255] 4) true := by
    refine law_end n s _ p12 p13 p14 p15 e12 e13 e14 e15 ?_ ?_ ?_ ?_
    · rw [q12]; simp only [inB, Bool.true_and]
    · rw [q13]; simp only [inB, Bool.true_and]; exact decide_eq_decide.2 (by omega)
    · rw [q14]; simp only [inB, Bool.and_true]
    · rw [q15]; simp only [inB, Bool.and_true]; exact decide_eq_decide.2 (by omega)
  have m0 : Ev (fun k => rubriclaw11_KindBounds.l1 k n s [9223372036854775807, 4294967295, 65535, 255] 0) true := by
    refine l1_step n s _ rfl 0 20 9223372036854775807 1 (by decide) (by decide) (by kernel_rfl) (by kernel_rfl) rfl p20 e20 ?_ ?_
    · rw [q20]
      simp only [inB]
      rw [decide_eq_true (show n ≤ 18446744073709551615 by omega), decide_eq_true h2]
    refine l1_step n s _ rfl 1 21 4294967295 2 (by decide) (by decide) (by kernel_rfl) (by kernel_rfl) rfl p21 e21 q21 ?_
    refine l1_step n s _ rfl 2 22 65535 3 (by decide) (by decide) (by kernel_rfl) (by kernel_rfl) rfl p22 e22 q22 ?_
    exact l1_step n s _ rfl 3 23 255 4 (by decide) (by decide) (by kernel_rfl) (by kernel_rfl) rfl p23 e23 q23 last
  have m1 : Ev (fun k => rubriclaw11_KindBounds.l0 k n s [-9223372036854775808, -2147483648, -32768, -128] [9223372036854775807, 2147483647, 32767, 127] 4) true := by
    refine Ev_succ ?_
    simp only [rubriclaw11_KindBounds.l0, if_neg (show ¬ (4 : Int) < 4 by decide)]
    exact m0
  have m2 : Ev (fun k => rubriclaw11_KindBounds.l0 k n s [-9223372036854775808, -2147483648, -32768, -128] [9223372036854775807, 2147483647, 32767, 127] 0) true := by
    refine l0_step n s _ _ rfl rfl 0 16 (-9223372036854775808) 9223372036854775807 1 (by decide) (by decide) (by kernel_rfl) (by kernel_rfl) rfl rfl p16 e16 q16 ?_
    refine l0_step n s _ _ rfl rfl 1 17 (-2147483648) 2147483647 2 (by decide) (by decide) (by kernel_rfl) (by kernel_rfl) rfl rfl p17 e17 q17 ?_
    refine l0_step n s _ _ rfl rfl 2 18 (-32768) 32767 3 (by decide) (by decide) (by kernel_rfl) (by kernel_rfl) rfl rfl p18 e18 q18 ?_
    exact l0_step n s _ _ rfl rfl 3 19 (-128) 127 4 (by decide) (by decide) (by kernel_rfl) (by kernel_rfl) rfl rfl p19 e19 q19 m1
  unfold rubriclaw11_KindBounds.f
  refine Ev.bind (g := fun k => known.f k) (a := true) (Ev.now _) ?_
  simp only [if_true]
  exact Ev.bind hd m2
theorem KindBounds_t : rubriclaw11_KindBounds.Pure := by
  intro n hw
  have hr : -9223372036854775808 ≤ n ∧ n ≤ 9223372036854775807 := by
    simpa [Lit.wf, IntKind.min, IntKind.max, IntKind.bits, IntKind.signed] using hw
  obtain ⟨k, h⟩ := law_kb n hr.1 hr.2
  exact ⟨k, h k (Nat.le_refl _)⟩

end Go.Proofs.YtdjgiphipjejlaaGreatDoor.B
