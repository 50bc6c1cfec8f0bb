import Derived.Test.YtdjgiphipjejlaaGreatDoorC1
import Derived.Test.YtdjgiphipjejlaaGreatDoorPrx2
namespace Go.Proofs.YtdjgiphipjejlaaGreatDoor.B
open Go.RowKit Go.Proofs.YtdjgiphipjejlaaGreatDoor Go.Proofs.YtdjgiphipjejlaaGreatDoor.G Go.Proofs.YtdjgiphipjejlaaGreatDoor.Pr Go.Proofs.YtdjgiphipjejlaaGreatDoorW.PrintWords Go.Proofs.YtdjgiphipjejlaaGreatDoorW.PrintLast
set_option linter.unusedVariables false
set_option linter.unusedSimpArgs false
/-! Parse -/
theorem indexByte_split : ∀ (w p : List UInt8) (c : UInt8), c ∉ w → Lib.indexByte (w ++ c :: p) c = (w.length : Int)
  | [], p, c, _ => by simp [Lib.indexByte]
  | b :: w, p, c, h => by
    have h1 : ¬ b = c := fun e => h (by simp [e])
    have h2 := indexByte_split w p c (fun e => h (by simp [e]))
    simp only [List.cons_append, Lib.indexByte]
    rw [if_neg (by simpa using h1), h2, if_neg (by simp)]
    simp
theorem indexByte_miss : ∀ (w : List UInt8) (c : UInt8), c ∉ w → Lib.indexByte w c = -1
  | [], c, _ => rfl
  | b :: w, c, h => by
    have h1 : ¬ b = c := fun e => h (by simp [e])
    have h2 := indexByte_miss w c (fun e => h (by simp [e]))
    simp only [Lib.indexByte]
    rw [if_neg (by simpa using h1), h2]
    rfl
def lst (s : ByteArray) : List UInt8 := s.data.toList
theorem lst_length (s : ByteArray) : (lst s).length = s.size := by simp [lst]
theorem lst_append (s t : ByteArray) : lst (s ++ t) = lst s ++ lst t := by simp [lst]
theorem lst_extract (s : ByteArray) (a b : Nat) : lst (s.extract a b) = ((lst s).take b).drop a := by
  simp [lst, List.drop_take]
theorem lst_inj {s t : ByteArray} (h : lst s = lst t) : s = t := by
  obtain ⟨⟨a⟩⟩ := s
  obtain ⟨⟨b⟩⟩ := t
  simp [lst] at h
  rw [h]
theorem cutP_split (r : ByteArray) (c : UInt8) (w p : List UInt8) (hr : lst r = w ++ c :: p) (hw : c ∉ w) : lst (cutP r c).1 = w ∧ lst (cutP r c).2.1 = p := by
  have e : Lib.indexByte r.data.toList c = (w.length : Int) := by
    have : r.data.toList = w ++ c :: p := hr
    rw [this]
    exact indexByte_split w p c hw
  have hs : r.size = w.length + 1 + p.length := by
    rw [← lst_length, hr]
    simp
    omega
  unfold cutP
  rw [e, if_pos (by omega)]
  simp only [Int.toNat_natCast]
  rw [lst_extract, lst_extract, hr]
  constructor
  · simp
  · rw [List.take_of_length_le (by simp; omega), List.drop_append, List.drop_of_length_le (by omega)]
    simp
theorem cutP_miss (r : ByteArray) (c : UInt8) (h : c ∉ lst r) : cutP r c = (r, ByteArray.empty, false) := by
  unfold cutP
  rw [show Lib.indexByte r.data.toList c = -1 from indexByte_miss _ _ h, if_neg (by omega)]
theorem cutP_size (r : ByteArray) (c : UInt8) : (cutP r c).1.size + (cutP r c).2.1.size ≤ r.size := by
  unfold cutP
  split
  · rename_i h
    have := indexByte_lt r c h
    simp only [ByteArray.size_extract]
    omega
  · simp
def digl (l : List UInt8) : List Int := l.map fun b => (b.toNat : Int) - 48
theorem digs_lst (s : ByteArray) : digs s = digl (lst s) := rfl
theorem Dg_digs {s : ByteArray} (h : digOk s = true) : Dg (digs s) := by
  intro x hx
  unfold digs at hx
  obtain ⟨b, hb, rfl⟩ := List.mem_map.1 hx
  unfold digOk at h
  rw [List.all_eq_true] at h
  have := h b hb
  simp only [Bool.and_eq_true, decide_eq_true_eq] at this
  omega
/-- What is left behind the sign. -/
theorem parse_j1_ok (r : ByteArray) (neg : Bool) (hr : r.size ≤ 4096) (hok : digOk ((cutP r 46).1 ++ (cutP r 46).2.1) = true) (h0 : 0 < (cutP r 46).1.size + (cutP r 46).2.1.size) (S : Nat) (hS : r.size ≤ S) :
    ∃ (n' : Bool) (l' : List Int) (s' : Nat), Ev (fun k => dec_Parse.j1 k r neg) (n', l', (s' : Int), 0) ∧ Can n' l' s' ∧ vl S n' l' s' = vl S neg (digs ((cutP r 46).1 ++ (cutP r 46).2.1)) (cutP r 46).2.1.size ∧ s' ≤ (cutP r 46).2.1.size ∧ l'.length ≤ r.size + 1 := by
  have hsz := cutP_size r 46
  have hl := digs_length ((cutP r 46).1 ++ (cutP r 46).2.1)
  rw [ByteArray.size_append] at hl
  obtain ⟨n', l', s', c1, c2, c3, c4, c5⟩ := canon_eq S neg (digs ((cutP r 46).1 ++ (cutP r 46).2.1)) (cutP r 46).2.1.size (Dg_digs hok) (by omega) (by omega) (by omega) (by omega)
  refine ⟨n', l', s', ?_, c2, c3, c4, by omega⟩
  refine Ev.step (f := fun _ => some (n', l', (s' : Int), 0)) (fun k => ?_) (Ev.now _)
  simp only [dec_Parse.j1]
  have e1 : strings_Cut.f r (⟨#[46]⟩ : ByteArray) = some (cutP r 46) := by
    unfold strings_Cut.f
    rw [dif_pos (by rfl), if_pos (by omega)]
    rfl
  have e2 : dec_digits.f ((cutP r 46).1 ++ (cutP r 46).2.1) = some (digs ((cutP r 46).1 ++ (cutP r 46).2.1), true) := by
    unfold dec_digits.f
    rw [if_pos (by rw [ByteArray.size_append]; omega), if_pos hok]
  rw [e1]
  simp only [Option.bind_some]
  rw [if_pos (by omega), e2]
  simp only [Option.bind_some, if_true]
  rw [if_neg (by omega), c1]
  rfl
theorem parse_j1_bad (r : ByteArray) (neg : Bool) (hr : r.size ≤ 4096) (h : ¬ (digOk ((cutP r 46).1 ++ (cutP r 46).2.1) = true ∧ 0 < (cutP r 46).1.size + (cutP r 46).2.1.size)) : Ev (fun k => dec_Parse.j1 k r neg) (false, [], 0, 2) := by
  have hsz := cutP_size r 46
  refine Ev.step (f := fun _ => some (false, [], 0, 2)) (fun k => ?_) (Ev.now _)
  simp only [dec_Parse.j1]
  have e1 : strings_Cut.f r (⟨#[46]⟩ : ByteArray) = some (cutP r 46) := by
    unfold strings_Cut.f
    rw [dif_pos (by rfl), if_pos (by omega)]
    rfl
  rw [e1]
  simp only [Option.bind_some]
  rw [if_pos (by omega)]
  unfold dec_digits.f
  rw [if_pos (by rw [ByteArray.size_append]; omega)]
  by_cases hd : digOk ((cutP r 46).1 ++ (cutP r 46).2.1) = true
  · rw [if_pos hd]
    simp only [Option.bind_some, if_true]
    rw [if_pos (by rw [digs_length, ByteArray.size_append]; have : ¬ 0 < (cutP r 46).1.size + (cutP r 46).2.1.size := fun h2 => h ⟨hd, h2⟩; omega)]
  · rw [if_neg hd]
    rfl
theorem bt_zero (a : ByteArray) (b : UInt8) (t : List UInt8) (h : lst a = b :: t) : bt a 0 = (b.toNat : Int) := by
  obtain ⟨⟨l⟩⟩ := a
  simp only [lst] at h
  subst h
  simp [bt]
  rfl
theorem toList_lst (a : ByteArray) : a.toList = lst a := Lib.toList_data a
/-- A text with a sign. -/
theorem parse_sign (a : ByteArray) (b : UInt8) (t : List UInt8) (h : lst a = b :: t) (hb : b = 43 ∨ b = 45) (hsz : a.size ≤ 4096) {res : Bool × List Int × Int × Int}
    (hj : Ev (fun k => dec_Parse.j1 k (⟨t.toArray⟩ : ByteArray) (b == 45)) res) : Ev (fun k => dec_Parse.f k a) res := by
  have hl := lst_length a
  rw [h, List.length_cons] at hl
  have he : a.extract 1 a.size = (⟨t.toArray⟩ : ByteArray) := lst_inj (by rw [lst_extract, h, List.take_of_length_le (by simp; omega)]; simp [lst])
  have hbt := bt_zero a b t h
  have hne : ¬ a.toList = ([] : List UInt8) := by rw [toList_lst, h]; simp
  have e45 : (bt a 0 == 45) = (b == 45) := by
    rw [hbt]
    rcases hb with rfl | rfl <;> rfl
  have hj0 : Ev (fun k => dec_Parse.j0 k a a false true) res := by
    refine Ev.step (f := fun k => dec_Parse.j1 k (⟨t.toArray⟩ : ByteArray) (b == 45)) (fun k => ?_) hj
    simp only [dec_Parse.j0, if_true]
    rw [if_pos (by omega), if_pos (by omega), he, e45]
  refine Ev.congr (fun k => ?_) hj0
  unfold dec_Parse.f
  rw [if_neg (by omega), if_neg hne, if_pos (by omega)]
  rcases hb with rfl | rfl
  · rw [if_pos (by rw [hbt]; rfl)]
  · rw [if_neg (by rw [hbt]; decide)]
    rw [hbt]
    rfl
theorem parse_plain (a : ByteArray) (h : ∀ b t, lst a = b :: t → b ≠ 43 ∧ b ≠ 45) (hsz : a.size ≤ 4096) {res : Bool × List Int × Int × Int}
    (hj : Ev (fun k => dec_Parse.j1 k a false) res) : Ev (fun k => dec_Parse.f k a) res := by
  have hj0 : Ev (fun k => dec_Parse.j0 k a a false false) res := Ev.step (f := fun k => dec_Parse.j1 k a false) (fun k => by simp [dec_Parse.j0]) hj
  refine Ev.congr (fun k => ?_) hj0
  unfold dec_Parse.f
  rw [if_neg (by omega)]
  cases hl : lst a with
  | nil => rw [if_pos (by rw [toList_lst, hl])]
  | cons b t =>
    obtain ⟨h1, h2⟩ := h b t hl
    have hlen := lst_length a
    rw [hl, List.length_cons] at hlen
    have hbt := bt_zero a b t hl
    have n1 : ¬ bt a 0 = 43 := by
      rw [hbt]
      intro e
      apply h1
      apply UInt8.toNat_inj.1
      have : ((43 : UInt8).toNat : Int) = 43 := rfl
      omega
    have n2 : (bt a 0 == 45) = false := by
      rw [hbt, beq_eq_false_iff_ne]
      intro e
      apply h2
      apply UInt8.toNat_inj.1
      have : ((45 : UInt8).toNat : Int) = 45 := rfl
      omega
    rw [if_neg (by rw [toList_lst, hl]; simp), if_pos (by omega), if_neg n1, n2]
theorem parse_any (a : ByteArray) (hsz : a.size ≤ 4096) : ∃ (n : Bool) (l : List Int) (s : Nat) (e : Int), Ev (fun k => dec_Parse.f k a) (n, l, (s : Int), e) ∧ 0 ≤ e ∧ e ≤ 3 ∧ (e = 0 → Can n l s ∧ l.length ≤ a.size + 1) := by
  have main : ∀ (r : ByteArray) (neg : Bool), r.size ≤ a.size → (∀ res, Ev (fun k => dec_Parse.j1 k r neg) res → Ev (fun k => dec_Parse.f k a) res) →
      ∃ (n : Bool) (l : List Int) (s : Nat) (e : Int), Ev (fun k => dec_Parse.f k a) (n, l, (s : Int), e) ∧ 0 ≤ e ∧ e ≤ 3 ∧ (e = 0 → Can n l s ∧ l.length ≤ a.size + 1) := by
    intro r neg hr hj
    by_cases hok : digOk ((cutP r 46).1 ++ (cutP r 46).2.1) = true ∧ 0 < (cutP r 46).1.size + (cutP r 46).2.1.size
    · obtain ⟨n', l', s', e, c, _, _, hl⟩ := parse_j1_ok r neg (by omega) hok.1 hok.2 r.size (Nat.le_refl _)
      exact ⟨n', l', s', 0, hj _ e, by omega, by omega, fun _ => ⟨c, by omega⟩⟩
    · exact ⟨false, [], 0, 2, hj _ (parse_j1_bad r neg (by omega) hok), by omega, by omega, fun h => by omega⟩
  cases hl : lst a with
  | nil => exact main a false (Nat.le_refl _) (fun res h => parse_plain a (fun b t e => by rw [hl] at e; cases e) hsz h)
  | cons b t =>
    have hlen := lst_length a
    rw [hl, List.length_cons] at hlen
    by_cases hb : b = 43 ∨ b = 45
    · exact main ⟨t.toArray⟩ (b == 45) (by show t.toArray.size ≤ _; simp; omega) (fun res h => parse_sign a b t hl hb hsz h)
    · exact main a false (Nat.le_refl _) (fun res h => parse_plain a (fun b' t' e => by
        rw [hl] at e
        injection e with e1 e2
        subst e1
        exact ⟨fun h => hb (Or.inl h), fun h => hb (Or.inr h)⟩) hsz h)

end Go.Proofs.YtdjgiphipjejlaaGreatDoor.B
