import Derived.Test.YtdjgiphipjejlaaGreatDoorC2
import Derived.Test.YtdjgiphipjejlaaGreatDoorC3
import Derived.Test.YtdjgiphipjejlaaGreatDoorPrx1
import Derived.Laws.Bits64
import Derived.Lib.ItoaNum
namespace Go.Proofs.YtdjgiphipjejlaaGreatDoor.B
open Go.RowKit Go.Proofs.YtdjgiphipjejlaaGreatDoor Go.Proofs.YtdjgiphipjejlaaGreatDoor.G Go.Proofs.YtdjgiphipjejlaaGreatDoor.Pr Go.Proofs.YtdjgiphipjejlaaGreatDoorW.PrintWords Go.Proofs.YtdjgiphipjejlaaGreatDoorW.PrintLast
set_option linter.unusedVariables false
set_option linter.unusedSimpArgs false
/-! ### Whole numbers' texts -/
theorem Ev_succ {α : Type} {g : Nat → Option α} {r : α} (h : Ev (fun k => g (k + 1)) r) : Ev g r := Ev.step (fun _ => rfl) h
def mkB (l : List UInt8) : ByteArray := ⟨l.toArray⟩
theorem lst_mk (l : List UInt8) : lst (mkB l) = l := by simp [mkB, lst]
theorem size_mkB (l : List UInt8) : (mkB l).size = l.length := by rw [← lst_length, lst_mk]
theorem mkB_append (a b : List UInt8) : mkB a ++ mkB b = mkB (a ++ b) := by
  apply lst_inj
  rw [lst_append, lst_mk, lst_mk, lst_mk]
def IsDs (ds : List UInt8) : Prop := ∀ b ∈ ds, 48 ≤ b.toNat ∧ b.toNat ≤ 57
def sgn (neg : Bool) : List UInt8 := if neg = true then [45] else []
def rvD (ds : List UInt8) : Int := rv (digl ds).reverse
/-- What a text of a sign and digits is. -/
theorem parse_ds (neg : Bool) (ds : List UInt8) (hd : IsDs ds) (h0 : 0 < ds.length) (hl : ds.length ≤ 20) :
    ∃ (n : Bool) (l : List Int), Ev (fun k => dec_Parse.f k (mkB (sgn neg ++ ds))) (n, l, 0, 0) ∧ Can n l 0 ∧ l.length ≤ 30 ∧ vl 30 n l 0 = 10 ^ 30 * (if neg = true then - rvD ds else rvD ds) := by
  have hm : (46 : UInt8) ∉ lst (mkB ds) := by
    rw [lst_mk]
    intro hc
    have := (hd _ hc).1
    exact absurd this (by decide)
  have hcut := cutP_miss (mkB ds) 46 hm
  have e1 : (mkB ds) ++ ByteArray.empty = mkB ds := by
    apply lst_inj
    rw [lst_append]
    simp [lst]
  have hok : digOk ((cutP (mkB ds) 46).1 ++ (cutP (mkB ds) 46).2.1) = true := by
    rw [hcut]
    show digOk (mkB ds ++ ByteArray.empty) = true
    rw [e1]
    unfold digOk
    rw [show (mkB ds).data.toList = ds from lst_mk ds, List.all_eq_true]
    intro b hb
    have := hd b hb
    simp only [Bool.and_eq_true, decide_eq_true_iff]
    exact this
  have hsz : (mkB ds).size = ds.length := size_mkB ds
  obtain ⟨n', l', s', hev, hcan, hvl, hs', hl'⟩ := parse_j1_ok (mkB ds) neg (by omega) hok (by rw [hcut]; show 0 < (mkB ds).size + ByteArray.empty.size; omega) 30 (by omega)
  rw [hcut] at hvl hs'
  have hz : s' = 0 := by
    have : s' ≤ ByteArray.empty.size := hs'
    have e0 : ByteArray.empty.size = 0 := rfl
    omega
  subst hz
  refine ⟨n', l', ?_, hcan, by omega, ?_⟩
  · cases neg with
    | true =>
      refine parse_sign (mkB (sgn true ++ ds)) 45 ds (by rw [lst_mk]; rfl) (.inr rfl) (by rw [size_mkB]; simp [sgn]; omega) ?_
      exact hev
    | false =>
      have e2 : mkB (sgn false ++ ds) = mkB ds := rfl
      rw [e2]
      refine parse_plain (mkB ds) (fun b t h => ?_) (by omega) hev
      rw [lst_mk] at h
      have hb := hd b (by rw [h]; exact List.mem_cons_self)
      constructor
      · rintro rfl; exact absurd hb.1 (by decide)
      · rintro rfl; exact absurd hb.1 (by decide)
  · rw [hvl]
    show vl 30 neg (digs (mkB ds ++ ByteArray.empty)) 0 = _
    rw [e1, digs_lst, lst_mk]
    unfold vl mag rvD
    cases neg with
    | true => simp only [if_true]; rw [Int.mul_neg]
    | false => simp only [Bool.false_eq_true, if_false]
/-! ### The law's own text of a number -/
theorem ofNat_toNat {n : Nat} (h : n < 256) : (UInt8.ofNat n).toNat = n := by rw [UInt8.toNat_ofNat']; omega
def DD (u : Nat) : List Int := digl (Lib.decDigits u)
theorem digl_app (a b : List UInt8) : digl (a ++ b) = digl a ++ digl b := by simp [digl]
theorem dig_u (u : Nat) (hu : u < 18446744073709551616) : (IntKind.u64.wrap (48 + (Int.tmod (u : Int) 10))) % 256 = ((48 + u % 10 : Nat) : Int) := by
  have e1 : Int.tmod (u : Int) 10 = ((u % 10 : Nat) : Int) := by rw [Int.tmod_eq_emod_of_nonneg (by omega)]; omega
  rw [e1, IntKind.wrap_u64]; omega
theorem div_u (u : Nat) (hu : u < 18446744073709551616) : IntKind.u64.wrap (Int.tdiv (u : Int) 10) = ((u / 10 : Nat) : Int) := by
  rw [Int.tdiv_eq_ediv_of_nonneg (by omega), IntKind.wrap_u64]; omega
theorem dec_step (k : Nat) (x0 x3 d x3' : Int) (s t : ByteArray) (h : x3 ≥ 10) (hx : IntKind.u64.wrap (Int.tdiv x3 10) = x3') (hd : (IntKind.u64.wrap (48 + (Int.tmod x3' 10))) % 256 = d) (ht : strOfNums [d] ++ s = t)
    (hs : (strOfNums [d]).size + s.size ≤ 9223372036854775807) : rubriclaw11_decimal.l0 (k + 1) x0 x3 s = rubriclaw11_decimal.l0 k x0 x3' t := by
  subst hx hd ht
  simp only [rubriclaw11_decimal.l0]
  rw [if_pos h, Option.bind_some]
  exact if_pos hs
theorem decD_lt {u : Nat} (h : u < 10) : Lib.decDigits u = [UInt8.ofNat (48 + u)] := by rw [Lib.decDigits, dif_pos h]
theorem decD_ge {u : Nat} (h : ¬ u < 10) : Lib.decDigits u = Lib.decDigits (u / 10) ++ [UInt8.ofNat (48 + u % 10)] := by rw [Lib.decDigits, dif_neg h]
theorem dec_l0 (x0 : Int) : ∀ (j u : Nat) (rest : List UInt8), u < 10 ^ (j + 1) → u < 18446744073709551616 → rest.length + j ≤ 100 → ∀ k, j + 2 ≤ k →
    rubriclaw11_decimal.l0 k x0 (u : Int) (mkB (UInt8.ofNat (48 + u % 10) :: rest)) = some (mkB ((if x0 < 0 then [45] else []) ++ (Lib.decDigits u ++ rest))) := by
  intro j
  induction j with
  | zero =>
    intro u rest hu hu2 hr k hk
    obtain ⟨k, rfl⟩ : ∃ q, k = q + 1 := ⟨k - 1, by omega⟩
    have h10 : u < 10 := by simpa using hu
    simp only [rubriclaw11_decimal.l0]
    rw [if_neg (by omega), decD_lt h10, Nat.mod_eq_of_lt h10]
    by_cases hx : x0 < 0
    · rw [if_pos hx, if_pos hx, if_pos (by rw [size_mkB, List.length_cons]; omega)]
      rfl
    · rw [if_neg hx, if_neg hx]; rfl
  | succ j ih =>
    intro u rest hu hu2 hr k hk
    obtain ⟨k, rfl⟩ : ∃ q, k = q + 1 := ⟨k - 1, by omega⟩
    by_cases h10 : u < 10
    · simp only [rubriclaw11_decimal.l0]
      rw [if_neg (by omega), decD_lt h10, Nat.mod_eq_of_lt h10]
      by_cases hx : x0 < 0
      · rw [if_pos hx, if_pos hx, if_pos (by rw [size_mkB, List.length_cons]; omega)]
        rfl
      · rw [if_neg hx, if_neg hx]; rfl
    · have hlt : u / 10 < 10 ^ (j + 1) := by
        rw [Nat.pow_succ] at hu
        exact Nat.div_lt_of_lt_mul (by omega)
      have e4 : strOfNums [((48 + u / 10 % 10 : Nat) : Int)] = mkB [UInt8.ofNat (48 + u / 10 % 10)] := rfl
      rw [dec_step k x0 (u : Int) ((48 + u / 10 % 10 : Nat) : Int) ((u / 10 : Nat) : Int) _ (mkB (UInt8.ofNat (48 + u / 10 % 10) :: (UInt8.ofNat (48 + u % 10) :: rest))) (by omega) (div_u u hu2) (dig_u (u / 10) (by omega)) (by rw [e4, mkB_append]; rfl) (by rw [e4, size_mkB, size_mkB, List.length_cons, List.length_cons, List.length_nil]; omega)]
      rw [ih (u / 10) (UInt8.ofNat (48 + u % 10) :: rest) hlt (by omega) (by rw [List.length_cons]; omega) k (by omega), decD_ge h10, List.append_assoc]
      rfl
theorem decimal_ev (n : Int) (h1 : -9223372036854775808 ≤ n) (h2 : n ≤ 9223372036854775807) : Ev (fun k => rubriclaw11_decimal.f k n) (mkB (sgn (decide (n < 0)) ++ Lib.decDigits n.natAbs)) := by
  have hu : n.natAbs < 18446744073709551616 := by omega
  have go : Ev (fun k => rubriclaw11_decimal.j0 k n (n.natAbs : Int)) (mkB ((if n < 0 then [45] else []) ++ (Lib.decDigits n.natAbs ++ []))) := by
    refine Ev_succ ⟨30, fun k hk => ?_⟩
    show rubriclaw11_decimal.j0 (k + 1) n (n.natAbs : Int) = _
    simp only [rubriclaw11_decimal.j0]
    rw [dig_u n.natAbs hu]
    exact dec_l0 n 20 n.natAbs [] (Nat.lt_of_lt_of_le hu (by decide)) hu (by simp) k (by omega)
  rw [List.append_nil] at go
  unfold rubriclaw11_decimal.f
  by_cases hn : n < 0
  · simp only [if_pos hn] at go ⊢
    have e : IntKind.u64.wrap (-(IntKind.u64.wrap n)) = (n.natAbs : Int) := by rw [IntKind.wrap_u64, IntKind.wrap_u64]; omega
    rw [e, decide_eq_true hn]
    exact go
  · simp only [if_neg hn] at go ⊢
    have e : IntKind.u64.wrap n = (n.natAbs : Int) := by rw [IntKind.wrap_u64]; omega
    rw [e, decide_eq_false hn]
    exact go

end Go.Proofs.YtdjgiphipjejlaaGreatDoor.B
