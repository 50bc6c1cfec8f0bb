import Derived.Test.YtjhmpippcndloaaB1
import Derived.Test.YtjhmpippcndloaaPrx4
namespace Go.Proofs.Ytjhmpippcndloaa.B
open Go.RowKit Go.Proofs.Ytjhmpippcndloaa Go.Proofs.Ytjhmpippcndloaa.G Go.Proofs.Ytjhmpippcndloaa.Pr Go.Proofs.YtjhmpippcndloaaW.PrintWords Go.Proofs.YtjhmpippcndloaaW.PrintLast
set_option linter.unusedVariables false
set_option linter.unusedSimpArgs false
/-! ### Of -/
theorem w64 {x : Int} (h1 : -9223372036854775808 ≤ x) (h2 : x ≤ 9223372036854775807) : wrap64 x = x := by unfold wrap64; omega
theorem w32 {x : Int} (h1 : -2147483648 ≤ x) (h2 : x ≤ 2147483647) : wrap32 x = x := by unfold wrap32; omega
theorem Ev_succ {α : Type} {g : Nat → Option α} {r : α} (h : Ev (fun k => g (k + 1)) r) : Ev g r := Ev.step (fun _ => rfl) h
theorem rdT {l : List S24} {i : Nat} (hi : i < l.length) : rd_T24 l (i : Int) = l[i] := by
  unfold rd_T24
  rw [Int.toNat_natCast, List.getD_eq_getElem?_getD, List.getElem?_eq_getElem hi]
  rfl
theorem nxt {i n : Nat} (h : i < n) (hn : n ≤ 1099511627776) : wrap64 ((i : Int) + 1) = ((i + 1 : Nat) : Int) := by
  rw [w64 (x := (i : Int) + 1) (by omega) (by omega)]
  omega
theorem of_l1 (l : List S24) (n : Int) (hn : n = l.length) (hl : l.length ≤ 1099511627776) (hc : ∀ x, x ∈ l → 0 ≤ x.f0 ∧ x.f0 ≤ x.f1 ∧ x.f1 ≤ topL) :
    ∀ (d i : Nat) (out : List S24), i + d = l.length → out.length ≤ i → (∀ y, y ∈ out → 0 ≤ y.f1 ∧ y.f1 ≤ topL) → Ev (fun k => set_Of.l1 k out l n (i : Int)) (mrgAll out (l.drop i))
  | 0, i, out, hi, ho, hb => by
    rw [List.drop_of_length_le (by omega)]
    refine Ev_succ ?_
    simp only [set_Of.l1, if_neg (show ¬ (i : Int) < n by omega), mrgAll]
    exact Ev.now _
  | d + 1, i, out, hi, ho, hb => by
    have hlt : i < l.length := by omega
    have hd : l.drop i = l[i] :: l.drop (i + 1) := List.drop_eq_getElem_cons hlt
    have hx := hc _ (List.getElem_mem hlt)
    have ih := fun out' h1 h2 => of_l1 l n hn hl hc d (i + 1) out' (by omega) h1 h2
    refine Ev_succ ?_
    simp only [set_Of.l1, if_pos (show (i : Int) < n by omega), if_pos (show (0 : Int) ≤ (i : Int) by omega), if_pos (show (i : Int) < (l.length : Int) by omega), rdT hlt, nxt hlt hl]
    rw [hd]
    simp only [mrgAll]
    generalize l[i] = x at hx
    cases hlast : out.getLast? with
    | none =>
      have e : out = [] := List.getLast?_eq_none_iff.1 hlast
      subst e
      simp only [List.length_nil, Int.natCast_zero, if_neg (show ¬ (0 : Int) > 0 by decide), if_pos (show (0 : Nat) < 17592186044416 by decide), List.nil_append]
      have := ih [x] (by simp) (fun y hy => by rw [List.mem_singleton.1 hy]; omega)
      simpa [mrg] using this
    | some y =>
      obtain ⟨q, rfl⟩ := List.getLast?_eq_some_iff.1 hlast
      have hlen : (q ++ [y]).length = q.length + 1 := by simp
      have hy := hb y (by simp)
      have hw : wrap64 (((q ++ [y]).length : Int) - 1) = ((q.length : Nat) : Int) := by
        rw [hlen, w64 (x := ((q.length + 1 : Nat) : Int) - 1) (by omega) (by omega)]
        omega
      have hr : rd_T24 (q ++ [y]) ((q.length : Nat) : Int) = y := by
        rw [rdT (show q.length < (q ++ [y]).length by omega)]
        simp
      have hw2 : wrap32 (y.f1 + 1) = y.f1 + 1 := w32 (by unfold topL at hy; omega) (by unfold topL at hy; omega)
      simp only [if_pos (show ((q ++ [y]).length : Int) > 0 by omega), hw, if_pos (show (0 : Int) ≤ ((q.length : Nat) : Int) by omega), if_pos (show ((q.length : Nat) : Int) < ((q ++ [y]).length : Int) by omega), hr, hw2, Int.toNat_natCast, if_pos (show (q ++ [y]).length < 17592186044416 by omega)]
      have hset : (q ++ [y]).set q.length (⟨y.f0, mx y.f1 x.f1⟩ : S24) = q ++ [⟨y.f0, mx y.f1 x.f1⟩] := by simp
      by_cases hcc : x.f0 ≤ y.f1 + 1
      · simp only [if_pos hcc, hset]
        have e : mrg (q ++ [y]) x = q ++ [⟨y.f0, mx y.f1 x.f1⟩] := by
          unfold mrg
          rw [hlast]
          simp only [if_pos hcc, List.dropLast_concat]
        rw [e]
        refine ih _ (by simp only [List.length_append, List.length_singleton] at *; omega) (fun z hz => ?_)
        rcases List.mem_append.1 hz with hz | hz
        · exact hb z (List.mem_append_left _ hz)
        · rw [List.mem_singleton.1 hz]
          simp only
          unfold mx
          unfold topL at *
          omega
      · simp only [if_neg hcc]
        have e : mrg (q ++ [y]) x = q ++ [y] ++ [x] := by
          unfold mrg
          rw [hlast]
          simp only [if_neg hcc]
        rw [e]
        refine ih _ (by simp only [List.length_append, List.length_singleton] at *; omega) (fun z hz => ?_)
        rcases List.mem_append.1 hz with hz | hz
        · exact hb z hz
        · rw [List.mem_singleton.1 hz]
          show 0 ≤ x.f1 ∧ x.f1 ≤ topL
          omega
theorem of_l0 (l : List S24) (hl : l.length ≤ 1099511627776) : ∀ (d i : Nat), i + d = l.length → Ev (fun k => set_Of.l0 k (clampL (l.take i)) l (l.length : Int) (i : Int)) (ofL l)
  | 0, i, hi => by
    have ht : l.take i = l := List.take_of_length_le (by omega)
    rw [ht]
    have hcl := clampL_length l
    have hs : slices_SortFunc_rng.f (clampL l) = some (sortR (clampL l)) := by
      unfold slices_SortFunc_rng.f
      rw [if_pos (by omega)]
    refine Ev_succ ?_
    simp only [set_Of.l0, if_neg (show ¬ (i : Int) < (l.length : Int) by omega), hs, Option.bind_some]
    have hsl := sortR_length (clampL l)
    have := of_l1 (sortR (clampL l)) ((clampL l).length : Int) (by rw [hsl]) (by omega) (fun x hx => clampL_each l x ((sortR_perm _).mem_iff.1 hx)) (sortR (clampL l)).length 0 [] (by omega) (Nat.zero_le _) (fun _ h => by cases h)
    exact this
  | d + 1, i, hi => by
    have hlt : i < l.length := by omega
    have ih := of_l0 l hl d (i + 1) (by omega)
    have ht : l.take (i + 1) = l.take i ++ [l[i]] := List.take_succ_eq_append_getElem hlt
    have hcl := clampL_length (l.take i)
    have htl : (l.take i).length = i := by rw [List.length_take]; omega
    have hap : clampL (l.take (i + 1)) = clampL (l.take i) ++ (if (clampS l[i]).f0 ≤ (clampS l[i]).f1 then [clampS l[i]] else []) := by
      rw [ht]
      unfold clampL
      rw [List.map_append, List.filter_append]
      congr 1
      simp only [List.map_cons, List.map_nil, List.filter_cons, List.filter_nil, decide_eq_true_iff]
    rw [hap] at ih
    refine Ev_succ ?_
    simp only [set_Of.l0, if_pos (show (i : Int) < (l.length : Int) by omega), if_pos (show (0 : Int) ≤ (i : Int) by omega), rdT hlt, nxt hlt hl, if_pos (show (clampL (l.take i)).length < 17592186044416 by omega)]
    by_cases hc : (clampS l[i]).f0 ≤ (clampS l[i]).f1
    · rw [if_pos hc] at ih
      have hc' : mx l[i].f0 0 ≤ mn l[i].f1 1114111 := hc
      simp only [if_pos hc']
      exact ih
    · rw [if_neg hc, List.append_nil] at ih
      have hc' : ¬ mx l[i].f0 0 ≤ mn l[i].f1 1114111 := hc
      simp only [if_neg hc']
      exact ih
theorem of_ev (l : List S24) (hl : l.length ≤ 1099511627776) : Ev (fun k => set_Of.f k l) (ofL l) :=
  Ev.congr (fun k => rfl) (of_l0 l hl l.length 0 (by omega))

end Go.Proofs.Ytjhmpippcndloaa.B
