import Derived.Test.YtehaonhgbmlmnaaDoorB9r
import Derived.Test.YtehaonhgbmlmnaaDoorPrx16
namespace Go.Proofs.YtehaonhgbmlmnaaDoor.B
open Go.RowKit Go.Proofs.YtehaonhgbmlmnaaDoor Go.Proofs.YtehaonhgbmlmnaaDoor.G Go.Proofs.YtehaonhgbmlmnaaDoor.Pr Go.Proofs.YtehaonhgbmlmnaaDoorW.PrintWords Go.Proofs.YtehaonhgbmlmnaaDoorW.PrintLast
set_option linter.unusedVariables false
set_option linter.unusedSimpArgs false
/-! ### rubriclaw6.number -/
def d1 (n : Nat) : UInt8 := UInt8.ofNat (48 + n % 10)
def pre : Nat → Nat → List UInt8
  | 0, _ => []
  | j + 1, n => if n < 10 then [] else pre j (n / 10) ++ [d1 (n / 10)]
def nm (n : Nat) : List UInt8 := pre 8 n ++ [d1 n]
theorem d1_isD (n : Nat) : isD (d1 n) = true := by rw [isD_bt]; unfold d1; rw [dgt]; omega
theorem d1_val (n : Nat) : Lib.digitVal (d1 n) = some (n % 10) := by
  unfold Lib.digitVal d1
  rw [dgt, if_pos (by omega)]
  congr 1; omega
theorem pre_isD : ∀ (j n : Nat), ∀ b ∈ pre j n, isD b = true
  | 0, _, b, h => by simp [pre] at h
  | j + 1, n, b, h => by
    unfold pre at h
    split at h
    · simp at h
    · rcases List.mem_append.mp h with h | h
      · exact pre_isD j _ b h
      · rw [List.mem_singleton.mp h]; exact d1_isD _
theorem pre_len : ∀ (j n : Nat), (pre j n).length ≤ j
  | 0, _ => Nat.le_refl _
  | j + 1, n => by
    unfold pre
    split
    · simp
    · have := pre_len j (n / 10); simp; omega
theorem pre_val : ∀ (j n : Nat), n < 10 ^ (j + 1) → Lib.decFrom 0 (pre j n) = some (n / 10)
  | 0, n, h => by
    simp only [Nat.zero_add, Nat.pow_one] at h
    rw [show n / 10 = 0 from by omega]; rfl
  | j + 1, n, h => by
    unfold pre
    split
    · rw [show n / 10 = 0 from by omega]; rfl
    · rw [Nat.pow_succ] at h
      have := decFrom_snoc (d1_val (n / 10)) _ 0 _ (pre_val j (n / 10) (by omega))
      rw [this]; congr 1; omega
theorem nm_isD (n : Nat) : ∀ b ∈ nm n, isD b = true := by
  intro b h
  rcases List.mem_append.mp h with h | h
  · exact pre_isD _ _ b h
  · rw [List.mem_singleton.mp h]; exact d1_isD _
theorem nm_len (n : Nat) : 1 ≤ (nm n).length ∧ (nm n).length ≤ 9 := by
  have := pre_len 8 n
  unfold nm
  simp; omega
theorem nm_atoi (n : Nat) (h : n ≤ 999999999) : strconv_Atoi.f (mkB (nm n)) = some ((n : Int), none) := by
  obtain ⟨m, e, _, hm⟩ := atoi_dig (nm n) (nm_isD n) (nm_len n).1 (by have := nm_len n; omega)
  have hv := decFrom_snoc (d1_val n) _ 0 _ (pre_val 8 n (by omega))
  rw [show pre 8 n ++ [d1 n] = nm n from rfl, hm] at hv
  rw [e, Option.some.inj hv]
  congr 2
  omega
theorem number_step (k : Nat) (x0 : Int) (s : ByteArray) (d x0' : Int) (t : ByteArray) (h : x0 ≥ 10) (hx : wrap64 (Int.tdiv x0 10) = x0') (hd : (wrap64 (48 + (Int.tmod x0' 10))) % 256 = d) (ht : strOfNums [d] ++ s = t)
    (hs : (strOfNums [d]).size + s.size ≤ 9223372036854775807) : rubriclaw6_number.l0 (k + 1) x0 s = rubriclaw6_number.l0 k x0' t := by
  subst hd hx ht
  simp only [rubriclaw6_number.l0]
  rw [if_pos h, Option.bind_some]
  exact if_pos hs
theorem number_l0 : ∀ (j n : Nat) (acc : List UInt8), n < 10 ^ (j + 1) → n ≤ 999999999 → acc.length + j ≤ 100 → ∀ k, j + 2 ≤ k → rubriclaw6_number.l0 k (n : Int) (mkB acc) = some (mkB (pre j n ++ acc)) := by
  intro j
  induction j with
  | zero =>
    intro n acc h hn ha k hk
    simp only [Nat.zero_add, Nat.pow_one] at h
    obtain ⟨k, rfl⟩ : ∃ q, k = q + 1 := ⟨k - 1, by omega⟩
    simp only [rubriclaw6_number.l0]
    rw [if_neg (by omega)]; rfl
  | succ j ih =>
    intro n acc h hn ha k hk
    obtain ⟨k, rfl⟩ : ∃ q, k = q + 1 := ⟨k - 1, by omega⟩
    by_cases hc : n < 10
    · simp only [rubriclaw6_number.l0]
      rw [if_neg (by omega), show pre (j + 1) n = [] from by unfold pre; rw [if_pos hc]]; rfl
    · have e6 := sz2 [d1 (n / 10)] acc (by rw [List.length_singleton]; omega)
      have l9 : ([d1 (n / 10)] ++ acc).length + j ≤ 100 := by rw [List.length_append, List.length_singleton]; omega
      have e4 : strOfNums [((48 + n / 10 % 10 : Nat) : Int)] = mkB [d1 (n / 10)] := rfl
      rw [number_step k (n : Int) (mkB acc) ((48 + n / 10 % 10 : Nat) : Int) ((n / 10 : Nat) : Int) (mkB ([d1 (n / 10)] ++ acc)) (by omega) (div_e n (by omega)) (dig_e (n / 10) (by omega)) (by rw [e4, mkB_append]) (by rw [e4]; exact e6)]
      rw [Nat.pow_succ] at h
      rw [ih (n / 10) ([d1 (n / 10)] ++ acc) (by omega) (by omega) l9 k (by omega)]
      rw [show pre (j + 1) n = pre j (n / 10) ++ [d1 (n / 10)] from by rw [pre, if_neg hc], List.append_assoc]
theorem number_f (n : Nat) (hn : n ≤ 999999999) (k : Nat) (hk : 30 ≤ k) : rubriclaw6_number.f k (n : Int) = some (mkB (nm n)) := by
  unfold rubriclaw6_number.f
  have e4 : strOfNums [((48 + n % 10 : Nat) : Int)] = mkB [d1 n] := rfl
  rw [dig_e n (by omega), e4]
  exact number_l0 8 n [d1 n] (by omega) hn (by simp) k (by omega)
/-! ### a part -/
theorem part_at (c : UInt8) (p : Put) (v : Nat) (r : List UInt8) (b f : Bool) (mo sec nano : Int) (hv : v ≤ 999999999) (hc : isD c = false) (hr : r.length ≤ 900) :
    partG (c.toNat : Int) p ⟨mkB (nm v ++ (c :: r)), b, mo, sec, nano, f⟩ = some (p.put v ⟨mkB r, b, mo, sec, nano, true⟩) := by
  have hl := nm_len v
  have hlead : lead (mkB (nm v ++ (c :: r))).data.toList = (nm v).length := by
    rw [show (mkB (nm v ++ (c :: r))).data.toList = nm v ++ (c :: r) from lst_mkB _]
    exact lead_pre (nm v) (c :: r) (nm_isD v) (by intro b h; obtain rfl := Option.some.inj h; exact hc)
  unfold partG
  rw [if_pos (by rw [size_mkB]; simp; omega)]
  unfold partF
  simp only [hlead]
  rw [dif_pos (by rw [size_mkB]; simp), if_neg (by omega), if_neg (by omega)]
  have hget : ((mkB (nm v ++ (c :: r)))[(nm v).length]'(by rw [size_mkB]; simp)) = c := by
    show (nm v ++ (c :: r)).toArray[(nm v).length]'(by simp) = c
    simp
  rw [hget, if_pos rfl, extract_mkB, extract_mkB, size_mkB]
  simp only [List.take_left', List.drop_zero, List.take_length]
  rw [nm_atoi v hv, Option.bind_some]
  rw [show (nm v ++ c :: r).drop ((nm v).length + 1) = r from by rw [← List.drop_drop, List.drop_left]; rfl]
def tx (y m d h n s : Nat) : List UInt8 := 80 :: (nm y ++ (89 :: (nm m ++ (77 :: (nm d ++ (68 :: (84 :: (nm h ++ (72 :: (nm n ++ (77 :: (nm s ++ [46, 53, 83])))))))))))) 
theorem late_at (s : Nat) (b f : Bool) (mo sec nano : Int) (hs : s ≤ 999999999) (h1 : 0 ≤ sec) (h2 : sec ≤ 1000000000000000) (k : Nat) (hk : 30 ≤ k) :
    late k ⟨mkB (nm s ++ [46, 53, 83]), false, mo, sec, nano, f⟩ = some ⟨mkB [], false, mo, sec + s, 500000000, true⟩ := by
  have hl := nm_len s
  unfold late
  have hne : ¬ (mkB (nm s ++ [46, 53, 83])).toList = [] := by
    rw [ByteArray.toList_eq]
    show ¬ (lst (mkB _)) = []
    rw [lst_mkB]; simp
  rw [if_neg hne]
  have hd := digits_at (nm s) [46, 53, 83] false 1 9 (nm_isD s) (by intro b h; obtain rfl := Option.some.inj h; rfl) (by omega) (by omega) (by omega) (by decide) k (by omega)
  rw [show ((1 : Nat) : Int) = 1 from rfl, show ((9 : Nat) : Int) = 9 from rfl] at hd
  rw [hd, Option.bind_some]
  simp only []
  rw [nm_atoi s hs, Option.bind_some]
  have hf : date_reader_frac.f k (mkB [46, 53, 83]) false = some (500000000, mkB [83], false) := by
    unfold date_reader_frac.f
    rw [takes_cons, if_pos (by rfl : ((46 : UInt8).toNat : Int) = 46), Option.bind_some]
    simp only [if_true]
    have hd2 := digits_at [53] [83] false 1 9 (by decide) (by intro b h; obtain rfl := Option.some.inj h; rfl) (by decide) (by decide) (by omega) (by decide) k (by omega)
    rw [show ((1 : Nat) : Int) = 1 from rfl, show ((9 : Nat) : Int) = 9 from rfl] at hd2
    rw [show mkB [53, 83] = mkB ([53] ++ [83]) from rfl, hd2, Option.bind_some]
    dsimp only
    have hz : strings_Repeat.f (⟨#[48]⟩ : ByteArray) (wrap64 (9 - ((mkB [53]).size : Int))) = some (mkB [48, 48, 48, 48, 48, 48, 48, 48]) := by
      rw [size_mkB]; kernel_rfl
    have ha : strconv_Atoi.f (mkB [53, 48, 48, 48, 48, 48, 48, 48, 48]) = some (500000000, none) := by kernel_rfl
    rw [hz, Option.bind_some, mkB_append, if_pos (sz2 _ _ (by decide))]
    rw [show [53] ++ [48, 48, 48, 48, 48, 48, 48, 48] = ([53, 48, 48, 48, 48, 48, 48, 48, 48] : List UInt8) from rfl, ha, Option.bind_some]
  rw [hf, Option.bind_some]
  simp only []
  have hw := want_at 83 [] k (by omega)
  rw [show (((83 : UInt8).toNat : Nat) : Int) = 83 from rfl] at hw
  rw [hw, Option.bind_some, w64 (by omega) (by omega)]
theorem span_f (y m d h n s : Nat) (hy : y ≤ 999999999) (hm : m ≤ 999999999) (hd : d ≤ 999999999) (hh : h ≤ 999999999) (hn : n ≤ 999999999) (hs : s ≤ 999999999) (neg : Bool) (k : Nat) (hk : 30 ≤ k) :
    date_ParseSpan.f k (mkB (if neg = true then 45 :: tx y m d h n s else tx y m d h n s)) =
      some (if neg = true then 0 - (12 * (y : Int) + m) else 12 * (y : Int) + m, if neg = true then 0 - (86400 * (d : Int) + 3600 * h + 60 * n + s) else 86400 * (d : Int) + 3600 * h + 60 * n + s, if neg = true then 0 - 500000000 else 500000000, 0) := by
  have ly := nm_len y; have lm := nm_len m; have ld := nm_len d; have lh := nm_len h; have ln := nm_len n; have ls := nm_len s
  have ht : date_reader_takes.f (mkB (if neg = true then 45 :: tx y m d h n s else tx y m d h n s)) false 45 = some (neg, mkB (tx y m d h n s), false) := by
    cases neg with
    | true => rw [if_pos rfl, takes_cons, if_pos (by rfl : ((45 : UInt8).toNat : Int) = 45)]
    | false => rw [if_neg (by simp)]; unfold tx; rw [takes_cons, if_neg (by decide)]
  unfold date_ParseSpan.f
  rw [ht, Option.bind_some]
  simp only []
  unfold tx
  have hw := fun r => want_at 80 r k (by omega)
  rw [show (((80 : UInt8).toNat : Nat) : Int) = 80 from rfl] at hw
  rw [hw, Option.bind_some]
  simp only []
  have p89 := fun v r b f mo sec nano hv hr => part_at 89 .y v r b f mo sec nano hv rfl hr
  rw [show (((89 : UInt8).toNat : Nat) : Int) = 89 from rfl] at p89
  have p77 := fun v r b f mo sec nano hv hr => part_at 77 .mo v r b f mo sec nano hv rfl hr
  have q77 := fun v r b f mo sec nano hv hr => part_at 77 .mi v r b f mo sec nano hv rfl hr
  rw [show (((77 : UInt8).toNat : Nat) : Int) = 77 from rfl] at p77 q77
  have p68 := fun v r b f mo sec nano hv hr => part_at 68 .d v r b f mo sec nano hv rfl hr
  rw [show (((68 : UInt8).toNat : Nat) : Int) = 68 from rfl] at p68
  have p72 := fun v r b f mo sec nano hv hr => part_at 72 .h v r b f mo sec nano hv rfl hr
  rw [show (((72 : UInt8).toNat : Nat) : Int) = 72 from rfl] at p72
  rw [p89 y _ _ _ _ _ _ hy (by simp; omega), Option.bind_some]
  simp only [Put.put]
  rw [w64 (x := 12 * (y : Int)) (by omega) (by omega), w64 (x := 0 + 12 * (y : Int)) (by omega) (by omega)]
  rw [p77 m _ _ _ _ _ _ hm (by simp; omega), Option.bind_some]
  simp only [Put.put]
  rw [w64 (x := 0 + 12 * (y : Int) + m) (by omega) (by omega)]
  rw [p68 d _ _ _ _ _ _ hd (by simp; omega), Option.bind_some]
  simp only [Put.put]
  rw [w64 (x := 86400 * (d : Int)) (by omega) (by omega), w64 (x := 0 + 86400 * (d : Int)) (by omega) (by omega)]
  rw [takes_cons, if_pos (by rfl : ((84 : UInt8).toNat : Int) = 84), Option.bind_some]
  simp only [if_true]
  unfold times
  rw [p72 h _ _ _ _ _ _ hh (by simp; omega), Option.bind_some]
  simp only [Put.put]
  rw [w64 (x := 3600 * (h : Int)) (by omega) (by omega), w64 (x := 0 + 86400 * (d : Int) + 3600 * h) (by omega) (by omega)]
  rw [q77 n _ _ _ _ _ _ hn (by simp; omega), Option.bind_some]
  simp only [Put.put]
  rw [w64 (x := 60 * (n : Int)) (by omega) (by omega), w64 (x := 0 + 86400 * (d : Int) + 3600 * h + 60 * n) (by omega) (by omega)]
  rw [late_at s false _ _ _ _ hs (by omega) (by omega) k hk, Option.bind_some, Option.bind_some]
  simp only [Bool.not_true, Bool.or_self, Bool.true_or, Bool.false_eq_true, if_false]
  rw [if_neg (by simp), if_neg (by rw [ByteArray.toList_eq]; show ¬ ¬ (lst (mkB [])) = []; rw [lst_mkB]; simp)]
  cases neg with
  | true =>
    simp only [if_true]
    rw [w64 (by omega) (by omega), w64 (by omega) (by omega), w64 (by omega) (by omega)]
    simp only [Option.some.injEq, Prod.mk.injEq, and_true]
    omega
  | false =>
    simp only [Bool.false_eq_true, if_false]
    rw [w64 (by omega) (by omega), w64 (by omega) (by omega), w64 (by omega) (by omega)]
    simp only [Option.some.injEq, Prod.mk.injEq, and_true]
    omega

end Go.Proofs.YtehaonhgbmlmnaaDoor.B
