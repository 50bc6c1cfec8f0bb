/- For every two rows of digits, count of noughts and sign the law DecForms returns true: a decimal number written with noughts about it, with a sign and a point, is the same number. No condition: longer rows and other counts let the law return true at once. -/
import Derived.Test.YtnafjabpkbahdaaPrx6
import Derived.Test.YtnafjabpkbahdaaB4
import Derived.OpenShut
namespace Go.Proofs.Ytnafjabpkbahdaa.B
open Go.RowKit Go.Proofs.Ytnafjabpkbahdaa Go.Proofs.Ytnafjabpkbahdaa.G Go.Proofs.Ytnafjabpkbahdaa.Pr Go.Proofs.YtnafjabpkbahdaaW.PrintWords Go.Proofs.YtnafjabpkbahdaaW.PrintLast
set_option linter.unusedVariables false
/-! Digits written with noughts about them. -/
def mkB (l : List UInt8) : ByteArray := ⟨l.toArray⟩
theorem lst_mk (l : List UInt8) : lst (mkB l) = l := by simp [lst, mkB]
theorem mk_lst (s : ByteArray) : mkB (lst s) = s := lst_inj (lst_mk _)
theorem mk_size (l : List UInt8) : (mkB l).size = l.length := by rw [← lst_length, lst_mk]
def dby10 (x : Int) : UInt8 := UInt8.ofNat ((48 + Int.tmod x 10) % 256).toNat
theorem dby10_digit {x : Int} (h : 0 ≤ x ∧ x ≤ 255) : 48 ≤ (dby10 x).toNat ∧ (dby10 x).toNat ≤ 57 := by
  have e : Int.tmod x 10 = x % 10 := Int.tmod_eq_emod_of_nonneg h.1
  unfold dby10
  rw [e, UInt8.toNat_ofNat']
  omega
theorem lst_one (x : Int) : lst (strOfNums [(48 + Int.tmod x 10) % 256]) = [dby10 x] := by
  rw [show lst (strOfNums [(48 + Int.tmod x 10) % 256]) = _ from strOfNums_data _]
  rfl
theorem drop_map_step {l : List Int} {i : Nat} (h : i < l.length) : (l.drop i).map dby10 = dby10 (rd l (i : Int)) :: (l.drop (i + 1)).map dby10 := by
  rw [List.drop_eq_getElem_cons h, List.map_cons]
  congr 2
  unfold rd
  rw [Int.toNat_natCast, List.getD_eq_getElem?_getD, List.getElem?_eq_getElem h]
  rfl
theorem forms_l0 {res : Bool} (x0 x1 : List Int) (x2 : Int) (x3 : Bool) (x10 x11 : ByteArray) (h60 : x0.length ≤ 60) :
    ∀ (d i : Nat) (x9 : ByteArray), i + d = x0.length → x9.size ≤ i → Ev (fun k => rubriclaw5_DecForms.l1 k x1 x2 x3 (mkB (lst x9 ++ (x0.drop i).map dby10)) x10 x11 0) res →
      Ev (fun k => rubriclaw5_DecForms.l0 k x0 x1 x2 x3 x9 x10 x11 (i : Int)) res
  | 0, i, x9, hi, hs, h => by
    refine Ev_succ ?_
    rw [List.drop_of_length_le (by omega), List.map_nil, List.append_nil, mk_lst] at h
    simp only [rubriclaw5_DecForms.l0]
    simp only [if_neg (show ¬ (i : Int) < (x0.length : Int) by omega)]
    exact h
  | d + 1, i, x9, hi, hs, h => by
    refine Ev_succ ?_
    simp only [rubriclaw5_DecForms.l0]
    simp only [if_pos (show (i : Int) < (x0.length : Int) by omega), if_pos (show (0 : Int) ≤ (i : Int) by omega), Option.bind_some, if_pos (show x9.size + (strOfNums [(48 + Int.tmod (rd x0 (i : Int)) 10) % 256]).size ≤ 9223372036854775807 by rw [strOfNums_size]; simp; omega)]
    rw [w64 (x := (i : Int) + 1) (by omega) (by omega), show (i : Int) + 1 = ((i + 1 : Nat) : Int) by omega]
    refine forms_l0 x0 x1 x2 x3 x10 x11 h60 d (i + 1) _ (by omega) (by rw [ByteArray.size_append, strOfNums_size]; simp; omega) ?_
    rw [lst_append, lst_one, List.append_assoc, List.singleton_append, ← drop_map_step (by omega)]
    exact h
theorem forms_l1 {res : Bool} (x1 : List Int) (x2 : Int) (x3 : Bool) (x9 x11 : ByteArray) (h60 : x1.length ≤ 60) :
    ∀ (d i : Nat) (x10 : ByteArray), i + d = x1.length → x10.size ≤ i → Ev (fun k => rubriclaw5_DecForms.l2 k x1 x2 x3 x9 (mkB (lst x10 ++ (x1.drop i).map dby10)) x11 0) res →
      Ev (fun k => rubriclaw5_DecForms.l1 k x1 x2 x3 x9 x10 x11 (i : Int)) res
  | 0, i, x10, hi, hs, h => by
    refine Ev_succ ?_
    rw [List.drop_of_length_le (by omega), List.map_nil, List.append_nil, mk_lst] at h
    simp only [rubriclaw5_DecForms.l1]
    simp only [if_neg (show ¬ (i : Int) < (x1.length : Int) by omega)]
    exact h
  | d + 1, i, x10, hi, hs, h => by
    refine Ev_succ ?_
    simp only [rubriclaw5_DecForms.l1]
    simp only [if_pos (show (i : Int) < (x1.length : Int) by omega), if_pos (show (0 : Int) ≤ (i : Int) by omega), Option.bind_some, if_pos (show x10.size + (strOfNums [(48 + Int.tmod (rd x1 (i : Int)) 10) % 256]).size ≤ 9223372036854775807 by rw [strOfNums_size]; simp; omega)]
    rw [w64 (x := (i : Int) + 1) (by omega) (by omega), show (i : Int) + 1 = ((i + 1 : Nat) : Int) by omega]
    refine forms_l1 x1 x2 x3 x9 x11 h60 d (i + 1) _ (by omega) (by rw [ByteArray.size_append, strOfNums_size]; simp; omega) ?_
    rw [lst_append, lst_one, List.append_assoc, List.singleton_append, ← drop_map_step (by omega)]
    exact h
theorem forms_l2 {res : Bool} (x1 : List Int) (N : Nat) (x3 : Bool) (x9 x10 : ByteArray) (h60 : N ≤ 60) :
    ∀ (d i : Nat) (x11 : ByteArray), i + d = N → x11.size ≤ i → Ev (fun k => rubriclaw5_DecForms.j4 k x1 x9 x10 (mkB (lst x11 ++ List.replicate d 48)) (mkB [if x3 = true then 45 else 43])) res →
      Ev (fun k => rubriclaw5_DecForms.l2 k x1 (N : Int) x3 x9 x10 x11 (i : Int)) res
  | 0, i, x11, hi, hs, h => by
    refine Ev_succ ?_
    rw [List.replicate_zero, List.append_nil, mk_lst] at h
    simp only [rubriclaw5_DecForms.l2]
    simp only [if_neg (show ¬ (i : Int) < (N : Int) by omega)]
    cases x3 <;> exact h
  | d + 1, i, x11, hi, hs, h => by
    refine Ev_succ ?_
    simp only [rubriclaw5_DecForms.l2]
    simp only [if_pos (show (i : Int) < (N : Int) by omega), if_pos (show x11.size + 1 ≤ 9223372036854775807 by omega)]
    rw [w64 (x := (i : Int) + 1) (by omega) (by omega), show (i : Int) + 1 = ((i + 1 : Nat) : Int) by omega]
    refine forms_l2 x1 N x3 x9 x10 h60 d (i + 1) _ (by omega) (by rw [ByteArray.size_append]; show x11.size + 1 ≤ i + 1; omega) ?_
    rw [lst_append, List.append_assoc, show lst (⟨#[48]⟩ : ByteArray) ++ List.replicate d 48 = List.replicate (d + 1) 48 from rfl]
    exact h
def isD (b : UInt8) : Prop := 48 ≤ b.toNat ∧ b.toNat ≤ 57
theorem digOk_of {s : ByteArray} (h : ∀ b, b ∈ lst s → isD b) : digOk s = true := by
  unfold digOk
  rw [List.all_eq_true]
  intro b hb
  have := h b hb
  unfold isD at this
  simp only [Bool.and_eq_true, decide_eq_true_eq]
  omega
theorem isD_ne46 {b : UInt8} (h : isD b) : b ≠ 46 := by
  rintro rfl
  unfold isD at h
  have : (46 : UInt8).toNat = 46 := rfl
  omega
theorem parse_num (a : ByteArray) (c : UInt8) (w p : List UInt8) (hc : c = 43 ∨ c = 45) (hl : lst a = c :: (w ++ 46 :: p)) (hd : ∀ b, b ∈ w ++ p → isD b) (h0 : 0 < w.length) (hsz : a.size ≤ 4096) :
    ∃ (n : Bool) (l : List Int) (s : Nat), Ev (fun k => dec_Parse.f k a) (n, l, (s : Int), 0) ∧ Can n l s ∧ vl 5000 n l s = vl 5000 (c == 45) (digl (w ++ p)) p.length ∧ s ≤ p.length ∧ l.length ≤ a.size + 1 := by
  have hlen := lst_length a
  rw [hl, List.length_cons] at hlen
  obtain ⟨e1, e2⟩ := cutP_split (mkB (w ++ 46 :: p)) 46 w p (lst_mk _) (fun hm => isD_ne46 (hd 46 (by simp [hm])) rfl)
  have hms : (mkB (w ++ 46 :: p)).size = a.size - 1 := by rw [mk_size]; omega
  have hs1 : (cutP (mkB (w ++ 46 :: p)) 46).1.size = w.length := by rw [← lst_length, e1]
  have hs2 : (cutP (mkB (w ++ 46 :: p)) 46).2.1.size = p.length := by rw [← lst_length, e2]
  obtain ⟨n, l, s, ev, can, v, hs, hll⟩ := parse_j1_ok (mkB (w ++ 46 :: p)) (c == 45) (by omega) (digOk_of (by rw [lst_append, e1, e2]; exact hd)) (by omega) 5000 (by omega)
  rw [digs_lst, lst_append, e1, e2, hs2] at v
  exact ⟨n, l, s, parse_sign a c _ hl hc hsz ev, can, v, by omega, by omega⟩
theorem parse_int (a : ByteArray) (c : UInt8) (w : List UInt8) (hc : c = 43 ∨ c = 45) (hl : lst a = c :: w) (hd : ∀ b, b ∈ w → isD b) (h0 : 0 < w.length) (hsz : a.size ≤ 4096) :
    ∃ (n : Bool) (l : List Int) (s : Nat), Ev (fun k => dec_Parse.f k a) (n, l, (s : Int), 0) ∧ Can n l s ∧ vl 5000 n l s = vl 5000 (c == 45) (digl w) 0 ∧ s ≤ 0 ∧ l.length ≤ a.size + 1 := by
  have hlen := lst_length a
  rw [hl, List.length_cons] at hlen
  have e := cutP_miss (mkB w) 46 (by rw [lst_mk]; exact fun hm => isD_ne46 (hd 46 hm) rfl)
  have hms : (mkB w).size = a.size - 1 := by rw [mk_size]; omega
  have hes : (ByteArray.empty).size = 0 := rfl
  obtain ⟨n, l, s, ev, can, v, hs, hll⟩ := parse_j1_ok (mkB w) (c == 45) (by omega) (digOk_of (by rw [e, lst_append, lst_mk]; simpa [lst] using hd)) (by rw [e]; simp only; omega) 5000 (by omega)
  rw [e] at v hs
  simp only [digs_lst, lst_append, lst_mk] at v
  rw [show lst ByteArray.empty = [] from rfl, List.append_nil] at v
  exact ⟨n, l, s, parse_sign a c _ hl hc hsz ev, can, v, hs, by omega⟩
theorem digl_append (a b : List UInt8) : digl (a ++ b) = digl a ++ digl b := by simp [digl]
theorem digl_zeros (n : Nat) : digl (List.replicate n 48) = List.replicate n 0 := by
  unfold digl
  rw [List.map_replicate]
  rfl
theorem mag_pad (S n : Nat) (l : List Int) (s : Nat) (h : s + n ≤ S) : mag S (List.replicate n 0 ++ l ++ List.replicate n 0) (s + n) = mag S l s := by
  unfold mag
  rw [List.reverse_append, List.reverse_append, List.reverse_replicate, rv_append, rv_append, rv_zeros, List.length_replicate, Int.mul_zero, Int.add_zero, Int.zero_add, ← Int.mul_assoc, ← ten_add]
  congr 2
  omega
theorem text_some {n : Bool} {l : List Int} {s : Nat} (h : Can n l s) (hl : l.length ≤ 1048576) : ∃ t, dec_Dec_Text.f n l (s : Int) = some t := by
  have := h.lt
  unfold dec_Dec_Text.f
  rw [if_pos ⟨hl, by omega, by omega⟩]
  exact ⟨_, rfl⟩
theorem total_some {n : Bool} {l : List Int} {s : Nat} (h : Can n l s) : ∃ t, dec_Dec_Total.f n l (s : Int) = some t := by
  have := h.lt
  unfold dec_Dec_Total.f
  split
  · split
    · rw [if_pos (by omega)]
      split
      · exact ⟨_, rfl⟩
      · exact ⟨_, rfl⟩
    · exact ⟨_, rfl⟩
  · exact ⟨_, rfl⟩
theorem forms_j4 (l1 : List Int) (A B : List UInt8) (N : Nat) (c : UInt8) (hc : c = 43 ∨ c = 45) (hA : ∀ b, b ∈ A → isD b) (hB : ∀ b, b ∈ B → isD b) (hAl : A.length ≤ 60) (hBl : B.length = l1.length) (hBl2 : B.length ≤ 60) (hN : N ≤ 60) :
    Ev (fun k => rubriclaw5_DecForms.j4 k l1 (mkB A) (mkB B) (mkB (List.replicate N 48)) (mkB [c])) true := by
  have h48 : isD 48 := by unfold isD; decide
  have hZ : ∀ b, b ∈ List.replicate N (48 : UInt8) → isD b := fun b hb => by rw [List.eq_of_mem_replicate hb]; exact h48
  have sA := mk_size A
  have sB := mk_size B
  have sZ := mk_size (List.replicate N 48)
  have sC := mk_size [c]
  rw [List.length_replicate] at sZ
  rw [List.length_singleton] at sC
  have s48 : (⟨#[48]⟩ : ByteArray).size = 1 := rfl
  have s46 : (⟨#[46]⟩ : ByteArray).size = 1 := rfl
  have l48 : lst (⟨#[48]⟩ : ByteArray) = [48] := rfl
  have l46 : lst (⟨#[46]⟩ : ByteArray) = [46] := rfl
  refine Ev_succ ?_
  simp only [rubriclaw5_DecForms.j4]
  simp only [ByteArray.size_append, sA, sB, sZ, sC, s48, s46]
  simp only [if_pos (show 1 + 1 ≤ 9223372036854775807 by omega), if_pos (show 1 + 1 + A.length ≤ 9223372036854775807 by omega), if_pos (show 1 + 1 + A.length + 1 ≤ 9223372036854775807 by omega), if_pos (show 1 + 1 + A.length + 1 + B.length ≤ 9223372036854775807 by omega), if_pos (show 1 + N ≤ 9223372036854775807 by omega), if_pos (show 1 + N + 1 ≤ 9223372036854775807 by omega), if_pos (show 1 + N + 1 + A.length ≤ 9223372036854775807 by omega), if_pos (show 1 + N + 1 + A.length + 1 ≤ 9223372036854775807 by omega), if_pos (show 1 + N + 1 + A.length + 1 + B.length ≤ 9223372036854775807 by omega), if_pos (show 1 + N + 1 + A.length + 1 + B.length + N ≤ 9223372036854775807 by omega), if_pos (show 1 + 1 + A.length + B.length ≤ 9223372036854775807 by omega)]
  have hx := parse_num ((((mkB [c] ++ (⟨#[48]⟩ : ByteArray)) ++ mkB A) ++ (⟨#[46]⟩ : ByteArray)) ++ mkB B) c (48 :: A) B hc (by simp only [lst_append, lst_mk, l48, l46]; simp) (fun b hb => by
    rcases List.mem_append.1 hb with hb | hb
    · rcases List.mem_cons.1 hb with rfl | hb
      · exact h48
      · exact hA b hb
    · exact hB b hb) (by simp) (by simp only [ByteArray.size_append, sA, sB, sC, s48, s46]; omega)
  have hy := parse_num ((((((mkB [c] ++ mkB (List.replicate N 48)) ++ (⟨#[48]⟩ : ByteArray)) ++ mkB A) ++ (⟨#[46]⟩ : ByteArray)) ++ mkB B) ++ mkB (List.replicate N 48)) c (List.replicate N 48 ++ 48 :: A) (B ++ List.replicate N 48) hc (by simp only [lst_append, lst_mk, l48, l46]; simp) (fun b hb => by
    rcases List.mem_append.1 hb with hb | hb
    · rcases List.mem_append.1 hb with hb | hb
      · exact hZ b hb
      · rcases List.mem_cons.1 hb with rfl | hb
        · exact h48
        · exact hA b hb
    · rcases List.mem_append.1 hb with hb | hb
      · exact hB b hb
      · exact hZ b hb) (by simp; omega) (by simp only [ByteArray.size_append, sA, sB, sC, sZ, s48, s46]; omega)
  have hw := parse_int (((mkB [c] ++ (⟨#[48]⟩ : ByteArray)) ++ mkB A) ++ mkB B) c (48 :: A ++ B) hc (by simp only [lst_append, lst_mk, l48]; simp) (fun b hb => by
    rcases List.mem_append.1 hb with hb | hb
    · rcases List.mem_cons.1 hb with rfl | hb
      · exact h48
      · exact hA b hb
    · exact hB b hb) (by simp) (by simp only [ByteArray.size_append, sA, sB, sC, s48]; omega)
  simp only [ByteArray.size_append, sA, sB, sC, sZ, s48, s46] at hx hy hw
  obtain ⟨xn, xl, xs, xe, xc, xv, x1, x2⟩ := hx
  obtain ⟨yn, yl, ys, ye, yc, yv, y1, y2⟩ := hy
  obtain ⟨wn, wl, ws, we, wc, wv, w1, w2⟩ := hw
  have hxy : vl 5000 yn yl ys = vl 5000 xn xl xs := by
    rw [xv, yv]
    have := mag_pad 5000 N (digl (48 :: A ++ B)) B.length (by omega)
    rw [List.length_append, List.length_replicate]
    rw [show digl (List.replicate N 48 ++ 48 :: A ++ (B ++ List.replicate N 48)) = List.replicate N 0 ++ digl (48 :: A ++ B) ++ List.replicate N 0 by rw [← digl_zeros, ← digl_append, ← digl_append]; simp]
    unfold vl
    rw [this]
  have hxs := xc.lt
  have hys := yc.lt
  have hws := wc.lt
  obtain ⟨rfl, rfl, rfl⟩ := vl_inj yc xc (by omega) (by omega) hxy
  have c1 := cmp_ev 5000 yc yc (by omega) (by omega) (by omega) (by omega)
  have c2 := cmp_ev 5000 yc wc (by omega) (by omega) (by omega) (by omega)
  obtain ⟨tx, etx⟩ := text_some yc (by omega)
  obtain ⟨tt, eto⟩ := total_some yc
  have efr : dec_Dec_Fraction.f yn yl (ys : Int) = some (ys : Int) := rfl
  refine Ev.bind xe (Ev.bind ye (Ev.bind we ?_))
  simp only [show wrap64 (wrap64 (0 + 0) + 0) = 0 from by rw [w64 (x := 0 + 0) (by decide) (by decide)]; exact w64 (x := 0 + 0 + 0) (by decide) (by decide), if_true]
  refine Ev.bind c1 ?_
  simp only [show sg (vl 5000 yn yl ys - vl 5000 yn yl ys) = 0 by rw [Int.sub_self]; rfl, if_true, etx, eto, efr, Option.bind_some]
  by_cases hb : (l1.length : Int) > 0
  · simp only [if_pos hb, decide_eq_true (show (ys : Int) ≤ (l1.length : Int) by omega)]
    exact Ev.now _
  · simp only [if_neg hb]
    have hB0 : B = [] := List.eq_nil_of_length_eq_zero (by omega)
    subst hB0
    refine Ev.bind c2 ?_
    have : vl 5000 yn yl ys - vl 5000 wn wl ws = 0 := by
      rw [xv, wv]
      simp
    rw [this]
    simp only [show sg 0 = 0 from rfl, if_true, decide_eq_true (show (ys : Int) ≤ (l1.length : Int) by omega)]
    exact Ev.now _
theorem DecForms_ev (l0 l1 : List Int) (a2 : Int) (a3 : Bool) (h0 : ∀ x ∈ l0, (Lit.int .u8 x).wf = true) (h1 : ∀ x ∈ l1, (Lit.int .u8 x).wf = true) : Ev (fun k => rubriclaw5_DecForms.f k l0 l1 a2 a3) true := by
  have j0t : Ev (fun k => rubriclaw5_DecForms.j0 k l0 l1 a2 a3 true) true := Ev.step (f := fun _ => some true) (fun k => by simp [rubriclaw5_DecForms.j0]) (Ev.now _)
  refine Ev.congr (fun k => rfl) (Ev.bind known_ev ?_)
  simp only [if_true]
  by_cases g0 : (l0.length : Int) > 60
  · simp only [if_pos g0]; exact j0t
  by_cases g1 : (l1.length : Int) > 60
  · simp only [if_neg g0, if_pos g1]; exact j0t
  by_cases g2 : a2 < 0
  · simp only [if_neg g0, if_neg g1, if_pos g2]; exact j0t
  by_cases g3 : a2 > 60
  · simp only [if_neg g0, if_neg g1, if_neg g2, decide_eq_true g3]; exact j0t
  simp only [if_neg g0, if_neg g1, if_neg g2, decide_eq_false g3]
  obtain ⟨N, rfl⟩ := Int.eq_ofNat_of_zero_le (show 0 ≤ a2 by omega)
  have wf8 : ∀ x : Int, (Lit.int .u8 x).wf = true → 0 ≤ x ∧ x ≤ 255 := fun x h => bounds_u8 h
  refine Ev_succ ?_
  simp only [rubriclaw5_DecForms.j0, Bool.false_eq_true, if_false]
  have e0 : (⟨#[]⟩ : ByteArray).size = 0 := rfl
  have l0e : lst (⟨#[]⟩ : ByteArray) = [] := rfl
  refine forms_l0 l0 l1 N a3 _ _ (by omega) l0.length 0 _ (by omega) (by omega) ?_
  refine forms_l1 l1 N a3 _ _ (by omega) l1.length 0 _ (by omega) (by omega) ?_
  refine forms_l2 l1 N a3 _ _ (by omega) N 0 _ (by omega) (by omega) ?_
  rw [l0e, List.nil_append, List.nil_append, List.nil_append, List.drop_zero, List.drop_zero]
  exact forms_j4 l1 _ _ N _ (by cases a3 <;> simp) (fun b hb => by
    obtain ⟨x, hx, rfl⟩ := List.mem_map.1 hb
    exact dby10_digit (wf8 x (h0 x hx))) (fun b hb => by
    obtain ⟨x, hx, rfl⟩ := List.mem_map.1 hb
    exact dby10_digit (wf8 x (h1 x hx))) (by simp; omega) (by simp) (by simp; omega) (by omega)
end Go.Proofs.Ytnafjabpkbahdaa.B
namespace Go.Proofs.Ytnafjabpkbahdaa.Pure
open Go.RowKit Go.Proofs.Ytnafjabpkbahdaa.Pr Go.Proofs.Ytnafjabpkbahdaa.B Go.Proofs.YtnafjabpkbahdaaW.PrintWords Go.Proofs.YtnafjabpkbahdaaW.PrintLast

theorem DecForms : rubriclaw5_DecForms.Pure := fun l0 l1 a2 a3 _ _ h0 _ _ h1 _ => (DecForms_ev l0 l1 a2 a3 h0 h1).rounds

end Go.Proofs.Ytnafjabpkbahdaa.Pure
