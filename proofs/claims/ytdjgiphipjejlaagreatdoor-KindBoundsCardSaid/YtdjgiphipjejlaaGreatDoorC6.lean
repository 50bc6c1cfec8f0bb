import Derived.Test.YtdjgiphipjejlaaGreatDoorC5
import Derived.Test.YtdjgiphipjejlaaGreatDoorPrx4
namespace Go.Proofs.YtdjgiphipjejlaaGreatDoor.B
open Go.RowKit Go.Proofs.YtdjgiphipjejlaaGreatDoor Go.Proofs.YtdjgiphipjejlaaGreatDoor.G Go.Proofs.YtdjgiphipjejlaaGreatDoor.Pr Go.Proofs.YtdjgiphipjejlaaGreatDoorW.PrintWords Go.Proofs.YtdjgiphipjejlaaGreatDoorW.PrintLast
set_option linter.unusedVariables false
set_option linter.unusedSimpArgs false
/-- Is a byte white? -/
def whiteB (b : UInt8) : Bool := b == 32 || b == 9 || b == 10 || b == 13
/-- The words of a text; acc: the word begun. -/
def wrd : List UInt8 → List UInt8 → List (List UInt8)
  | acc, [] => if acc = [] then [] else [acc]
  | acc, b :: t => if whiteB b = true then (if acc = [] then wrd [] t else acc :: wrd [] t) else wrd (acc ++ [b]) t
theorem bt_of (s : ByteArray) (pre rest : List UInt8) (b : UInt8) (h : lst s = pre ++ b :: rest) : bt s (pre.length : Int) = (b.toNat : Int) := by
  have hs : s.size = pre.length + (rest.length + 1) := by
    have := congrArg List.length h
    simpa [lst] using this
  unfold bt
  rw [dif_pos (by omega)]
  have : s[(pre.length : Int).toNat]'(by omega) = b := by
    have h1 : (lst s)[pre.length]'(by rw [h]; simp) = b := by simp [h]
    rw [← h1]
    simp [lst]
    rfl
  rw [this]
theorem u8_ne {b c : UInt8} (h : b ≠ c) : (b.toNat : Int) ≠ (c.toNat : Int) := fun e => h (UInt8.toNat_inj.1 (by omega))
theorem white_eq (b : UInt8) : char_White.f (wrap32 (b.toNat : Int)) = some (whiteB b) := by
  have hb := b.toNat_lt
  have hw : wrap32 (b.toNat : Int) = (b.toNat : Int) := by unfold wrap32; omega
  rw [hw]
  unfold char_White.f whiteB
  by_cases h1 : b = 32
  · subst h1; rfl
  have n1 : ¬ (b.toNat : Int) = 32 := u8_ne h1
  by_cases h2 : b = 9
  · subst h2; rfl
  have n2 : ¬ (b.toNat : Int) = 9 := u8_ne h2
  by_cases h3 : b = 10
  · subst h3; rfl
  have n3 : ¬ (b.toNat : Int) = 10 := u8_ne h3
  by_cases h4 : b = 13
  · subst h4; rfl
  have n4 : ¬ (b.toNat : Int) = 13 := u8_ne h4
  rw [if_neg n1, if_neg n2, if_neg n3]
  have e1 : (b == 32) = false := by simpa using h1
  have e2 : (b == 9) = false := by simpa using h2
  have e3 : (b == 10) = false := by simpa using h3
  have e4 : (b == 13) = false := by simpa using h4
  have e5 : ((b.toNat : Int) == 13) = false := by simpa using n4
  rw [e1, e2, e3, e4, e5]
  rfl
theorem words_l0 (s : ByteArray) (hs : s.size ≤ 4194304) : ∀ (rest : List UInt8) (q acc : List UInt8) (out : List ByteArray), lst s = q ++ acc ++ rest → out.length + rest.length ≤ 8388608 →
    Ev (fun k => char_Words.l0 k s out (q.length : Int) (((q ++ acc).length : Nat) : Int)) (out ++ (wrd acc rest).map mkB)
  | [], q, acc, out, h, ho => by
    have hsz : s.size = (q ++ acc).length := by
      have := congrArg List.length h
      simpa [lst] using this
    have hx : s.extract q.length (q ++ acc).length = mkB acc := by
      apply lst_inj
      rw [lst_mk]
      unfold lst
      rw [ByteArray.data_extract, Array.toList_extract, List.extract_eq_take_drop]
      have h' : s.data.toList = q ++ acc ++ [] := h
      rw [h']
      simp
    refine Ev_succ (Ev_succ ?_)
    simp only [char_Words.l0, if_pos (show (((q ++ acc).length : Nat) : Int) ≤ (s.size : Int) by omega), if_neg (show ¬ (((q ++ acc).length : Nat) : Int) < (s.size : Int) by omega), char_Words.j1, Bool.false_eq_true, if_false]
    have hw : wrap64 ((((q ++ acc).length : Nat) : Int) + 1) = (((q ++ acc).length : Nat) : Int) + 1 := w64 (by omega) (by omega)
    by_cases ha : acc = []
    · subst ha
      rw [List.append_nil] at *
      simp only [if_neg (show ¬ ((q.length : Nat) : Int) > (q.length : Int) by omega), hw, wrd, if_true, List.map_nil, List.append_nil]
      refine Ev_succ ?_
      simp only [char_Words.l0, if_neg (show ¬ (q.length : Int) + 1 ≤ (s.size : Int) by omega)]
      exact Ev.now _
    · have hl : 0 < acc.length := List.length_pos_iff.2 ha
      have hlen : (q ++ acc).length = q.length + acc.length := List.length_append
      simp only [if_pos (show (((q ++ acc).length : Nat) : Int) > (q.length : Int) by omega), if_pos (show (0 : Int) ≤ (q.length : Int) by omega), if_pos (show (q.length : Int) ≤ (((q ++ acc).length : Nat) : Int) by omega), if_pos (show (((q ++ acc).length : Nat) : Int) ≤ (s.size : Int) by omega), if_pos (show out.length < 8796093022208 by omega), hw, Int.toNat_natCast, hx]
      refine Ev_succ ?_
      simp only [char_Words.l0, if_neg (show ¬ (((q ++ acc).length : Nat) : Int) + 1 ≤ (s.size : Int) by omega), wrd, if_neg ha, List.map_cons, List.map_nil]
      exact Ev.now _
  | b :: rest, q, acc, out, h, ho => by
    have hsz : s.size = (q ++ acc).length + (rest.length + 1) := by
      have := congrArg List.length h
      simp only [List.length_append, List.length_cons, lst, Array.length_toList] at this
      rw [List.length_append]
      exact this
    simp only [List.length_cons] at ho
    have hlen : (q ++ acc).length = q.length + acc.length := List.length_append
    have hb := bt_of s (q ++ acc) rest b h
    have hw : wrap64 ((((q ++ acc).length : Nat) : Int) + 1) = (((q ++ acc).length + 1 : Nat) : Int) := by
      rw [w64 (x := (((q ++ acc).length : Nat) : Int) + 1) (by omega) (by omega)]
      omega
    have hx : s.extract q.length (q ++ acc).length = mkB acc := by
      apply lst_inj
      rw [lst_mk]
      unfold lst
      rw [ByteArray.data_extract, Array.toList_extract, List.extract_eq_take_drop]
      have h' : s.data.toList = q ++ acc ++ b :: rest := h
      rw [h']
      simp
    refine Ev_succ (Ev_succ ?_)
    simp only [char_Words.l0, if_pos (show (((q ++ acc).length : Nat) : Int) ≤ (s.size : Int) by omega), if_pos (show (((q ++ acc).length : Nat) : Int) < (s.size : Int) by omega), if_pos (show (0 : Int) ≤ (((q ++ acc).length : Nat) : Int) by omega), hb, white_eq, Option.bind_some, char_Words.j1, hw]
    cases hwb : whiteB b with
    | false =>
      have ih := words_l0 s hs rest q (acc ++ [b]) out (by rw [h]; simp) (by omega)
      have e : (q ++ (acc ++ [b])).length = (q ++ acc).length + 1 := by simp; omega
      rw [e] at ih
      simp only [Bool.not_false, if_true, wrd, hwb, Bool.false_eq_true, if_false]
      exact ih
    | true =>
      simp only [Bool.not_true, Bool.false_eq_true, if_false, wrd, hwb, if_true]
      by_cases ha : acc = []
      · subst ha
        have ih := words_l0 s hs rest (q ++ [b]) [] out (by rw [h]; simp) (by omega)
        have e : ((q ++ [b]) ++ []).length = (q ++ []).length + 1 := by simp
        have e2 : (q ++ [b]).length = (q ++ []).length + 1 := by simp
        rw [e, e2] at ih
        simp only [if_neg (show ¬ (((q ++ []).length : Nat) : Int) > (q.length : Int) by simp), if_true]
        exact ih
      · have hl : 0 < acc.length := List.length_pos_iff.2 ha
        have ih := words_l0 s hs rest (q ++ acc ++ [b]) [] (out ++ [mkB acc]) (by rw [h]; simp) (by simp only [List.length_append, List.length_singleton]; omega)
        have e : ((q ++ acc ++ [b]) ++ []).length = (q ++ acc).length + 1 := by simp; omega
        have e2 : (q ++ acc ++ [b]).length = (q ++ acc).length + 1 := by simp; omega
        rw [e, e2] at ih
        simp only [if_pos (show (((q ++ acc).length : Nat) : Int) > (q.length : Int) by omega), if_pos (show (0 : Int) ≤ (q.length : Int) by omega), if_pos (show (q.length : Int) ≤ (((q ++ acc).length : Nat) : Int) by omega), if_pos (show (((q ++ acc).length : Nat) : Int) ≤ (s.size : Int) by omega), if_pos (show out.length < 8796093022208 by omega), Int.toNat_natCast, hx, if_neg ha, List.map_cons]
        simpa [List.append_assoc] using ih
theorem words_ev (s : ByteArray) (hs : s.size ≤ 4194304) : Ev (fun k => char_Words.f k s) ((wrd [] (lst s)).map mkB) := by
  have := words_l0 s hs (lst s) [] [] [] (by simp) (by
    have : (lst s).length = s.size := by simp [lst]
    simp only [List.length_nil]
    omega)
  exact Ev.congr (f := fun k => char_Words.l0 k s [] 0 0) (fun k => rfl) (by simpa using this)

theorem wrd_one : ∀ (bs acc : List UInt8), (∀ b ∈ bs, whiteB b = false) → acc ++ bs ≠ [] → wrd acc bs = [acc ++ bs]
  | [], acc, _, h => by
    rw [List.append_nil] at h ⊢
    simp only [wrd, if_neg h]
  | b :: t, acc, hb, h => by
    simp only [wrd, hb b List.mem_cons_self, Bool.false_eq_true, if_false]
    rw [wrd_one t (acc ++ [b]) (fun x hx => hb x (List.mem_cons_of_mem _ hx)) (by simp), List.append_assoc, List.singleton_append]
theorem mk_lst (s : ByteArray) : mkB (lst s) = s := by simp [mkB, lst]
def txtB (neg : Bool) (ds : List UInt8) : ByteArray := mkB (sgn neg ++ ds)
theorem txt_bytes {neg : Bool} {ds : List UInt8} (hd : IsDs ds) : ∀ b ∈ sgn neg ++ ds, b ≠ 46 ∧ whiteB b = false := by
  intro b hb
  rcases List.mem_append.1 hb with h | h
  · cases neg with
    | true =>
      have : b = 45 := by simpa [sgn] using h
      subst this
      exact ⟨by decide, by decide⟩
    | false => simp [sgn] at h
  · have := hd b h
    refine ⟨?_, ?_⟩
    · rintro rfl; exact absurd this.1 (by decide)
    · unfold whiteB
      have ne : ∀ c : UInt8, c.toNat < 48 → (b == c) = false := fun c hc => beq_eq_false_iff_ne.2 (by rintro rfl; omega)
      rw [ne 32 (by decide), ne 9 (by decide), ne 10 (by decide), ne 13 (by decide)]
      rfl
theorem words_txt (neg : Bool) (ds : List UInt8) (hd : IsDs ds) (h0 : 0 < ds.length) (hl : ds.length ≤ 20) : Ev (fun k => char_Words.f k (txtB neg ds)) [txtB neg ds] := by
  have hlen : (sgn neg ++ ds).length ≤ 21 := by
    rw [List.length_append]
    cases neg <;> simp [sgn] <;> omega
  have := words_ev (txtB neg ds) (by unfold txtB; rw [size_mkB]; omega)
  unfold txtB at this ⊢
  rw [lst_mk, wrd_one _ [] (fun b hb => (txt_bytes hd b hb).2) (by
    rw [List.nil_append]
    intro hc
    have := congrArg List.length hc
    rw [List.length_append, List.length_nil] at this
    omega)] at this
  simpa using this
/-! ### A bound's text -/
def Bnd (s : ByteArray) (o : Option Int) : Prop := ∃ (n : Bool) (l : List Int) (sc e : Int), Ev (fun k => dec_Parse.f k s) (n, l, sc, e) ∧ (match o with | none => e ≠ 0 | some z => e = 0 ∧ sc = 0 ∧ Can n l 0 ∧ l.length ≤ 30 ∧ vl 30 n l 0 = 10 ^ 30 * z)
theorem bnd_none : Bnd (⟨#[]⟩ : ByteArray) none := ⟨false, [], 0, 2, Ev.of (dec_Parse.mono _) (k := 10) (by kernel_rfl), by decide⟩
theorem bnd_of (neg : Bool) (ds : List UInt8) (z : Int) (hd : IsDs ds) (h0 : 0 < ds.length) (hl : ds.length ≤ 20) (hz : (if neg = true then - rvD ds else rvD ds) = z) : Bnd (txtB neg ds) (some z) := by
  obtain ⟨n, l, h1, h2, h3, h4⟩ := parse_ds neg ds hd h0 hl
  exact ⟨n, l, 0, 0, h1, rfl, rfl, h2, h3, by rw [h4, hz]⟩
theorem isDs_all {ds : List UInt8} (h : ds.all (fun b => decide (48 ≤ b.toNat) && decide (b.toNat ≤ 57)) = true) : IsDs ds := fun b hb => by
  have := List.all_eq_true.1 h b hb
  simpa using this
def inB (lo hi : Option Int) (v : Int) : Bool := (match lo with | none => true | some z => decide (z ≤ v)) && (match hi with | none => true | some z => decide (v ≤ z))
theorem sg_le (x : Int) : (sg x ≤ 0) ↔ x ≤ 0 := by
  unfold sg
  by_cases h1 : x < 0
  · rw [if_pos h1]; omega
  · rw [if_neg h1]
    by_cases h2 : 0 < x
    · rw [if_pos h2]; omega
    · rw [if_neg h2]; omega
theorem cmp30 {n n' : Bool} {l l' : List Int} {z z' : Int} (h : Can n l 0) (h' : Can n' l' 0) (hl : l.length ≤ 30) (hl' : l'.length ≤ 30) (hv : vl 30 n l 0 = 10 ^ 30 * z) (hv' : vl 30 n' l' 0 = 10 ^ 30 * z') :
    ∃ c, Ev (fun k => dec_Cmp.f k n l 0 n' l' 0) c ∧ (c ≤ 0 ↔ z ≤ z') := by
  have := cmp_ev (t := 0) (s := 0) 30 h h' (by omega) (by omega) (by omega) (by omega)
  refine ⟨_, this, ?_⟩
  rw [hv, hv', ← Int.mul_sub, sg_scale (ten_pos 30), sg_le]
  omega
theorem within_ev {n : Bool} {l : List Int} {v : Int} (hc : Can n l 0) (hl : l.length ≤ 30) (hv : vl 30 n l 0 = 10 ^ 30 * v) (lo hi : ByteArray) (ol oh : Option Int) (bl : Bnd lo ol) (bh : Bnd hi oh) :
    Ev (fun k => kind_within.f k n l 0 lo hi) (inB ol oh v) := by
  obtain ⟨n1, l1, s1, e1, p1, q1⟩ := bl
  obtain ⟨n2, l2, s2, e2, p2, q2⟩ := bh
  unfold kind_within.f
  refine Ev.bind p1 (Ev.bind p2 ?_)
  -- the upper bound
  have up : (oh = none ∧ e2 ≠ 0) ∨ (∃ z, oh = some z ∧ e2 = 0 ∧ ∃ c, Ev (fun k => dec_Cmp.f k n l 0 n2 l2 s2) c ∧ (c ≤ 0 ↔ v ≤ z)) := by
    cases oh with
    | none => exact .inl ⟨rfl, q2⟩
    | some z =>
      obtain ⟨a1, a2, a3, a4, a5⟩ := q2
      subst a2
      exact .inr ⟨z, rfl, a1, cmp30 hc a3 hl a4 hv a5⟩
  have low : (ol = none ∧ e1 ≠ 0) ∨ (∃ z, ol = some z ∧ e1 = 0 ∧ ∃ c, Ev (fun k => dec_Cmp.f k n1 l1 s1 n l 0) c ∧ (c ≤ 0 ↔ z ≤ v)) := by
    cases ol with
    | none => exact .inl ⟨rfl, q1⟩
    | some z =>
      obtain ⟨a1, a2, a3, a4, a5⟩ := q1
      subst a2
      exact .inr ⟨z, rfl, a1, cmp30 a3 hc a4 hl a5 hv⟩
  rcases low with ⟨rfl, h1⟩ | ⟨z1, rfl, rfl, c1, hc1, hi1⟩
  · simp only [if_neg h1]
    rcases up with ⟨rfl, h2⟩ | ⟨z2, rfl, rfl, c2, hc2, hi2⟩
    · simp only [if_neg h2]
      exact Ev.now _
    · simp only [if_true]
      refine Ev.bind hc2 ?_
      have : inB none (some z2) v = decide (c2 ≤ 0) := by
        simp only [inB, Bool.true_and]
        exact (decide_eq_decide.2 hi2).symm
      rw [this]
      exact Ev.now _
  · simp only [if_true]
    refine Ev.bind hc1 ?_
    by_cases hz : z1 ≤ v
    · simp only [if_pos (hi1.2 hz)]
      rcases up with ⟨rfl, h2⟩ | ⟨z2, rfl, rfl, c2, hc2, hi2⟩
      · simp only [if_neg h2]
        have : inB (some z1) none v = true := by simp [inB, hz]
        rw [this]
        exact Ev.now _
      · simp only [if_true]
        refine Ev.bind hc2 ?_
        have : inB (some z1) (some z2) v = decide (c2 ≤ 0) := by
          simp only [inB, decide_eq_true hz, Bool.true_and]
          exact (decide_eq_decide.2 hi2).symm
        rw [this]
        exact Ev.now _
    · simp only [if_neg (fun h => hz (hi1.1 h))]
      have : inB (some z1) oh v = false := by simp [inB, hz]
      rw [this]
      exact Ev.now _
/-! ### kind.number of a whole number's text -/
theorem number_l0 (kk : Int) (s : ByteArray) (hs : s.size ≤ 100) (hb : ∀ b ∈ lst s, b ≠ 46) (n : Bool) (l : List Int) (lo hi : ByteArray) (hk : kind_bounds.f kk = some (lo, hi)) (W : Bool) (hw : Ev (fun k => kind_within.f k n l 0 lo hi) W) :
    ∀ (d i : Nat), i + d = s.size → Ev (fun k => kind_number.l0 k kk s (s.size : Int) (i : Int) n l 0) (n, l, 0, W)
  | 0, i, hi' => by
    refine Ev_succ ?_
    simp only [kind_number.l0, if_neg (show ¬ (i : Int) < (s.size : Int) by omega), hk, Option.bind_some]
    exact Ev.bind hw (Ev.now _)
  | d + 1, i, hi' => by
    have hlt : i < (lst s).length := by rw [lst_length]; omega
    have e2 : wrap64 ((i : Int) + 1) = ((i + 1 : Nat) : Int) := by rw [w64 (x := (i : Int) + 1) (by omega) (by omega)]; omega
    have hsp : lst s = (lst s).take i ++ (lst s)[i] :: (lst s).drop (i + 1) := by
      rw [← List.drop_eq_getElem_cons hlt, List.take_append_drop]
    have hbt := bt_of s ((lst s).take i) ((lst s).drop (i + 1)) _ hsp
    rw [List.length_take, Nat.min_eq_left (by omega)] at hbt
    have hne : ¬ bt s (i : Int) = 46 := by
      rw [hbt]
      have h1 := hb _ (List.getElem_mem hlt)
      exact u8_ne h1
    refine Ev_succ ?_
    simp only [kind_number.l0, if_pos (show (i : Int) < (s.size : Int) by omega), if_pos (show (0 : Int) ≤ (i : Int) by omega), if_neg hne, e2]
    exact number_l0 kk s hs hb n l lo hi hk W hw d (i + 1) (by omega)
theorem number_ev (kk : Int) (h10 : kk ≠ 10) (neg : Bool) (ds : List UInt8) (hd : IsDs ds) (h0 : 0 < ds.length) (hl : ds.length ≤ 20) (lo hi : ByteArray) (hk : kind_bounds.f kk = some (lo, hi)) (ol oh : Option Int) (bl : Bnd lo ol) (bh : Bnd hi oh) :
    ∃ (n : Bool) (l : List Int), Ev (fun k => kind_number.f k kk (txtB neg ds)) (n, l, 0, inB ol oh (if neg = true then - rvD ds else rvD ds)) := by
  obtain ⟨n, l, h1, h2, h3, h4⟩ := parse_ds neg ds hd h0 hl
  have hw := within_ev h2 h3 h4 lo hi ol oh bl bh
  have hsz : (txtB neg ds).size ≤ 100 := by
    unfold txtB
    rw [size_mkB, List.length_append]
    cases neg <;> simp [sgn] <;> omega
  refine ⟨n, l, ?_⟩
  unfold kind_number.f
  refine Ev.bind h1 ?_
  simp only [if_true, if_neg h10]
  exact number_l0 kk (txtB neg ds) hsz (fun b hb => by
    unfold txtB at hb
    rw [lst_mk] at hb
    exact (txt_bytes hd b hb).1) n l lo hi hk _ hw (txtB neg ds).size 0 (by omega)

end Go.Proofs.YtdjgiphipjejlaaGreatDoor.B
