import Derived.Test.YtehaonhgbmlmnaaDoorB9
namespace Go.Proofs.YtehaonhgbmlmnaaDoor.B
open Go.RowKit Go.Proofs.YtehaonhgbmlmnaaDoor Go.Proofs.YtehaonhgbmlmnaaDoor.G Go.Proofs.YtehaonhgbmlmnaaDoor.Pr Go.Proofs.YtehaonhgbmlmnaaDoorW.PrintWords Go.Proofs.YtehaonhgbmlmnaaDoorW.PrintLast
set_option linter.unusedVariables false
set_option linter.unusedSimpArgs false
theorem decimal_f (n w : Nat) (hw : w ≤ 20) (hn : n ≤ 1000000000) (k : Nat) (hk : 30 ≤ k) : rubriclaw6_decimal.f k (n : Int) (w : Int) = some (mkB (dgs n w)) := by
  unfold rubriclaw6_decimal.f
  have := decimal_l0 w 0 w n [] (by omega) hw (by simp) hn k (by omega)
  rw [List.append_nil] at this
  exact this
def txt (Y M D h mi s : Nat) : List UInt8 := dgs Y 4 ++ (45 :: (dgs M 2 ++ (45 :: (dgs D 2 ++ (84 :: (dgs h 2 ++ (58 :: (dgs mi 2 ++ (58 :: (dgs s 2 ++ [90]))))))))))
theorem text_f (Y M D S : Nat) (h1 : Y ≤ 9999) (h2 : M ≤ 12) (h3 : D ≤ 31) (h4 : S < 86400) (k : Nat) (hk : 30 ≤ k) : rubriclaw6_text.f k 1 Y M D S 0 true 0 = some (mkB (txt Y M D (S / 3600) (S / 60 % 60) (S % 60))) := by
  have d4 := fun n hn => decimal_f n 4 (by omega) hn k hk
  have d2 := fun n hn => decimal_f n 2 (by omega) hn k hk
  rw [show ((4 : Nat) : Int) = 4 from rfl] at d4
  rw [show ((2 : Nat) : Int) = 2 from rfl] at d2
  have e1 : wrap64 (Int.tdiv (S : Int) 3600) = ((S / 3600 : Nat) : Int) := by rw [Int.tdiv_eq_ediv_of_nonneg (by omega), w64 (by omega) (by omega)]; omega
  have e2 : Int.tmod (wrap64 (Int.tdiv (S : Int) 60)) 60 = ((S / 60 % 60 : Nat) : Int) := by rw [Int.tdiv_eq_ediv_of_nonneg (by omega), w64 (by omega) (by omega), Int.tmod_eq_emod_of_nonneg (by omega)]; omega
  have e3 : Int.tmod (S : Int) 60 = ((S % 60 : Nat) : Int) := by rw [Int.tmod_eq_emod_of_nonneg (by omega)]; omega
  have b45 : (⟨#[45]⟩ : ByteArray) = mkB [45] := rfl
  have b58 : (⟨#[58]⟩ : ByteArray) = mkB [58] := rfl
  have b84 : (⟨#[84]⟩ : ByteArray) = mkB [84] := rfl
  have b90 : (⟨#[90]⟩ : ByteArray) = mkB [90] := rfl
  unfold rubriclaw6_text.f
  rw [e1, e2, e3, d4 Y (by omega), d2 M (by omega), d2 D (by omega), d2 (S / 3600) (by omega), d2 (S / 60 % 60) (by omega), d2 (S % 60) (by omega), b45, b58, b84, b90]
  simp only [Option.bind_some, mkB_append, size_mkB, List.length_append, dgs_len, List.length_singleton, Nat.reduceAdd, Nat.reduceLeDiff, if_true]
  unfold txt
  simp only [List.append_assoc, List.singleton_append, List.cons_append, List.nil_append]
/-! ### reading it again -/
theorem number_at (n : Nat) (r : List UInt8) (lo hi : Int) (h1 : lo ≤ n) (h2 : (n : Int) ≤ hi) (hn : n < 100) (hr : ∀ b, r.head? = some b → isD b = false) (hs : r.length ≤ 1000) (k : Nat) (hk : 20 ≤ k) :
    date_reader_number.f k (mkB (dgs n 2 ++ r)) false lo hi = some ((n : Int), mkB r, false) := by
  unfold date_reader_number.f
  have := digits_at (dgs n 2) r false 2 2 (dgs_isD 2 n) hr (by rw [dgs_len]; omega) (by rw [dgs_len]; omega) (by omega) (by omega) k (by omega)
  rw [show ((2 : Nat) : Int) = 2 from rfl] at this
  rw [this, Option.bind_some, dgs_atoi 2 n (by omega) (by omega) hn, Option.bind_some]
  simp only [Bool.false_eq_true, if_false]
  rw [if_neg (by omega), decide_eq_false (by omega)]
theorem year_at (n : Nat) (r : List UInt8) (h1 : 1 ≤ n) (hn : n < 10000) (hr : ∀ b, r.head? = some b → isD b = false) (hs : r.length ≤ 1000) (k : Nat) (hk : 20 ≤ k) :
    date_reader_year.f k (mkB (dgs n 4 ++ r)) false = some ((n : Int), mkB r, false) := by
  unfold date_reader_year.f
  obtain ⟨c, q, e, hc⟩ := dgs_head 4 n (by omega)
  have ht : date_reader_takes.f (mkB (dgs n 4 ++ r)) false 45 = some (false, mkB (dgs n 4 ++ r), false) := by
    rw [e, List.cons_append, takes_cons, if_neg (by have := (isD_bt c).mp hc; omega)]
  have := digits_at (dgs n 4) r false 4 9 (dgs_isD 4 n) hr (by rw [dgs_len]; omega) (by rw [dgs_len]; omega) (by omega) (by omega) k (by omega)
  rw [show ((4 : Nat) : Int) = 4 from rfl, show ((9 : Nat) : Int) = 9 from rfl] at this
  rw [ht, Option.bind_some]
  simp only []
  rw [this, Option.bind_some, dgs_atoi 4 n (by omega) (by omega) hn, Option.bind_some]
  simp only [Bool.false_eq_true, if_false, size_mkB, dgs_len]
  rw [if_neg (by omega), if_neg (by omega)]
theorem want_at (c : UInt8) (r : List UInt8) (k : Nat) (hk : 20 ≤ k) : date_reader_want.f k (mkB (c :: r)) false [(c.toNat : Int)] = some (mkB r, false) := by
  obtain ⟨k, rfl⟩ : ∃ q, k = q + 1 + 1 := ⟨k - 2, by omega⟩
  unfold date_reader_want.f
  simp [date_reader_want.l0, wrap64, rd, takes_cons]
theorem clock_at (h m s : Nat) (r : List UInt8) (h1 : h < 24) (h2 : m < 60) (h3 : s < 60) (hr : ∀ b, r.head? = some b → isD b = false ∧ b ≠ 46) (hs : r.length ≤ 900) (k : Nat) (hk : 20 ≤ k) :
    date_reader_clock.f k (mkB (dgs h 2 ++ (58 :: (dgs m 2 ++ (58 :: (dgs s 2 ++ r)))))) false = some (((3600 * h + 60 * m + s : Nat) : Int), 0, false, mkB r, false) := by
  have c58 : ∀ (l : List UInt8) b, (58 :: l).head? = some b → isD b = false := by intro l b h; obtain rfl := Option.some.inj h; rfl
  have w58 := fun r => want_at 58 r k hk
  rw [show (((58 : UInt8).toNat : Nat) : Int) = 58 from rfl] at w58
  have hf : date_reader_frac.f k (mkB r) false = some (0, mkB r, false) := by
    unfold date_reader_frac.f
    cases r with
    | nil => rw [takes_nil]; rfl
    | cons c r =>
      have hc := (hr c rfl).2
      rw [takes_cons, if_neg (by intro h; apply hc; apply UInt8.toNat_inj.mp; rw [show (46 : UInt8).toNat = 46 from rfl]; omega)]; rfl
  unfold date_reader_clock.f
  rw [number_at h _ 0 24 (by omega) (by omega) (by omega) (c58 _) (by simp [dgs_len]; omega) k hk, Option.bind_some]
  simp only []
  rw [w58, Option.bind_some]
  simp only []
  rw [number_at m _ 0 59 (by omega) (by omega) (by omega) (c58 _) (by simp [dgs_len]; omega) k hk, Option.bind_some]
  simp only []
  rw [w58, Option.bind_some]
  simp only []
  rw [number_at s _ 0 59 (by omega) (by omega) (by omega) (fun b hb => (hr b hb).1) (by omega) k hk, Option.bind_some]
  simp only []
  rw [hf, Option.bind_some, if_neg (by omega), w64 (x := 3600 * (h : Int)) (by omega) (by omega), w64 (x := 60 * (m : Int)) (by omega) (by omega), w64 (x := 3600 * (h : Int) + 60 * (m : Int)) (by omega) (by omega), w64 (by omega) (by omega)]
  simp only [Option.some.injEq, Prod.mk.injEq, and_true]
  omega
theorem parse_txt (Y M D S : Nat) (h1 : 1000 ≤ Y) (h2 : Y ≤ 9000) (m1 : 1 ≤ M) (m2 : M ≤ 12) (d1 : 1 ≤ D) (d2 : D ≤ 28) (h4 : S < 86400) (k : Nat) (hk : 30 ≤ k) :
    date_Parse.f k 1 (mkB (txt Y M D (S / 3600) (S / 60 % 60) (S % 60))) = some (1, (Y : Int), (M : Int), (D : Int), (S : Int), 0, true, 0, 0) := by
  have w45 := fun r => want_at 45 r k (by omega)
  rw [show (((45 : UInt8).toNat : Nat) : Int) = 45 from rfl] at w45
  have w84 := fun r => want_at 84 r k (by omega)
  rw [show (((84 : UInt8).toNat : Nat) : Int) = 84 from rfl] at w84
  have c45 : ∀ (l : List UInt8) b, (45 :: l).head? = some b → isD b = false := by intro l b h; obtain rfl := Option.some.inj h; rfl
  have c84 : ∀ (l : List UInt8) b, (84 :: l).head? = some b → isD b = false := by intro l b h; obtain rfl := Option.some.inj h; rfl
  have c90 : ∀ b, ([90] : List UInt8).head? = some b → isD b = false ∧ b ≠ 46 := by intro b h; obtain rfl := Option.some.inj h; decide
  unfold date_Parse.f txt
  rw [if_neg (by decide), if_neg (by decide), show fieldsOf 1 = [.year, .dash, .month, .dash, .day, .sharp, .clock] from rfl]
  simp only [G.run, G.step]
  rw [year_at Y _ (by omega) (by omega) (c45 _) (by simp [dgs_len]) k (by omega)]
  simp only [Option.map_some, Option.bind_some]
  rw [w45]
  simp only [Option.map_some, Option.bind_some]
  rw [number_at M _ 1 12 (by omega) (by omega) (by omega) (c45 _) (by simp [dgs_len]) k (by omega)]
  simp only [Option.map_some, Option.bind_some]
  rw [w45]
  simp only [Option.map_some, Option.bind_some]
  rw [number_at D _ 1 31 (by omega) (by omega) (by omega) (c84 _) (by simp [dgs_len]) k (by omega)]
  simp only [Option.map_some, Option.bind_some]
  rw [w84]
  simp only [Option.map_some, Option.bind_some]
  rw [clock_at (S / 3600) (S / 60 % 60) (S % 60) [90] (by omega) (by omega) (by omega) c90 (by simp) k (by omega)]
  simp only [Option.map_some, Option.bind_some]
  have hz : date_reader_zone.f k (mkB [90]) false = some (true, 0, mkB [], false) := by
    unfold date_reader_zone.f
    rw [takes_cons]; rfl
  have hL := mlen_range (ofY (Y : Int)) (M : Int)
  rw [hz, Option.bind_some, if_neg (by simp), if_neg (by rw [ByteArray.toList_eq]; show ¬ ¬ (lst (mkB [])) = []; rw [lst_mkB]; simp), Length_k (by omega) (by omega) (by omega) (by omega) (by omega), Option.bind_some, if_neg (by omega), if_neg (by simp)]
  simp only [Option.some.injEq, Prod.mk.injEq, and_true, true_and]
  omega

end Go.Proofs.YtehaonhgbmlmnaaDoor.B
