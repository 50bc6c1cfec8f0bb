import Derived.Test.YthocjdlcopmhiaaDoorProg
import Derived.Below
import Derived.Deep.Draws
import Derived.Deep.AppendLies
import Derived.Maps.AppendAt
import Derived.OwnWalk
import Derived.Laws.BytesArg
import Derived.Laws.MakeOwn
import Derived.Laws.OwnMore
import Derived.Deep.OwnRows
import Derived.Tactics
import Derived.Lib.ConvBytes
import Derived.Laws.Slices
import Derived.WalkKit
import Derived.KernelRfl
import Derived.RowKit3
import Derived.Deep.LoopGhost
import Derived.Deep.QuietTactic
import Derived.BigQuiet
import Derived.WideLaws
import Derived.Deep.DeepCutAuto
import Derived.Deep.CutBlock
import Derived.Deep.RegionHeld3
import Derived.Laws.Rows
import Derived.Lib.AppendStr
import Derived.ArgAppend
import Derived.Laws.IdiomCopy
import Derived.OrdersHeld
import Derived.Laws.BitsLemmas
import Derived.RowKit
import Derived.Test.YthocjdlcopmhiaaDoorWWords
import Derived.Test.YthocjdlcopmhiaaDoorWLast
import Derived.Test.YthocjdlcopmhiaaDoorWTab
import Derived.Test.YthocjdlcopmhiaaDoorWQPut
import Derived.Test.YthocjdlcopmhiaaDoorWApart
import Derived.Test.YthocjdlcopmhiaaDoorWArr
import Derived.Test.YthocjdlcopmhiaaDoorWZeros
import Derived.Test.YthocjdlcopmhiaaDoorWFoot
import Derived.Test.YthocjdlcopmhiaaDoorWKept
import Derived.Test.YthocjdlcopmhiaaDoorWShare
import Derived.Test.YthocjdlcopmhiaaDoorWN
import Derived.Test.YthocjdlcopmhiaaDoorWRepsOne
import Derived.Test.YthocjdlcopmhiaaDoorWGuard
import Derived.Test.YthocjdlcopmhiaaDoorWNEv
import Derived.Test.YthocjdlcopmhiaaDoorWMore
import Derived.Test.YthocjdlcopmhiaaDoorWEqStruct
import Derived.Test.YthocjdlcopmhiaaDoorWFour
import Derived.Test.YthocjdlcopmhiaaDoorWFootNe
import Derived.Test.YthocjdlcopmhiaaDoorWAt
import Derived.Test.YthocjdlcopmhiaaDoorWInv
import Derived.Test.YthocjdlcopmhiaaDoorWInvWords
import Derived.Test.YthocjdlcopmhiaaDoorS
import Derived.Test.YthocjdlcopmhiaaDoorPrx4
import Derived.Test.YthocjdlcopmhiaaDoorPrx6
import Derived.Lib.SlicesCompact
import Derived.Test.YthocjdlcopmhiaaDoorS3
import Derived.Lib.Hide
import Derived.WalkSpells
import Derived.Lib.LazyBuf
namespace Go.Proofs.YthocjdlcopmhiaaDoor.G
open Go.RowKit Go.Proofs.YthocjdlcopmhiaaDoorW.PrintWords Go.Proofs.YthocjdlcopmhiaaDoorW.PrintLast Go.Proofs.YthocjdlcopmhiaaDoorW.PrintMore
attribute [local go_sem] max2_int min2_int max_two min_two max_three min_three max_four min_four
set_option linter.unusedVariables false
set_option linter.unusedSimpArgs false
structure AD where
 syms : List Int
 null : Bool
 first : List Int
 last : List Int
 follow : List (List Int)
def AD.in_ (a : AD) (p : Int) : Prop := 0 ≤ p ∧ p < (a.syms.length : Int)
def AD.sym (a : AD) (p : Int) : Int := a.syms.getD p.toNat 0
def AD.fol (a : AD) (p q : Int) : Prop := 0 ≤ p ∧ p < (a.follow.length : Int) ∧ q ∈ a.follow.getD p.toNat []
def AD.tail (a : AD) : List Int → Int → Prop
 | [], p => p ∈ a.last
 | s :: v, p => ∃ q, a.fol p q ∧ a.in_ q ∧ a.sym q = s ∧ AD.tail a v q
def AD.acc (a : AD) : List Int → Prop
 | [] => a.null = true
 | s :: v => ∃ q, q ∈ a.first ∧ a.in_ q ∧ a.sym q = s ∧ a.tail v q
def ofP (a : AD) (s : Int) (p : Int) : Bool := decide (0 ≤ p) && decide (p < (a.syms.length : Int)) && decide (a.sym p = s)
theorem ofP_iff (a : AD) (s p : Int) : ofP a s p = true ↔ a.in_ p ∧ a.sym p = s := by
 unfold ofP AD.in_
 simp only [Bool.and_eq_true, decide_eq_true_eq]
theorem rd_getD_ (s : List Int) (i : Int) : rd s i = s.getD i.toNat 0 := rfl
theorem of_loop (a : AD) (s : Int) (l : List Int) (hl : l.length < 4611686018427387904) : ∀ (d k i : Nat) (out : List Int), l.length = i + d → d < k → out.length + d < 17592186044416 →
  Pr.glush_Auto_of.l0 k s out l (l.length : Int) (i : Int) a.syms a.null a.first a.last a.follow = some (out ++ (l.drop i).filter (ofP a s)) := by
 intro d
 induction d with
 | zero =>
  intro k i out he hk ho
  obtain ⟨k, rfl⟩ : ∃ q, k = q + 1 := ⟨k - 1, by omega⟩
  simp only [Pr.glush_Auto_of.l0]
  rw [if_neg (by omega), List.drop_of_length_le (by omega)]
  simp
 | succ d ih =>
  intro k i out he hk ho
  obtain ⟨k, rfl⟩ : ∃ q, k = q + 1 := ⟨k - 1, by omega⟩
  have hi : i < l.length := by omega
  have hd : l.drop i = l[i] :: l.drop (i + 1) := List.drop_eq_getElem_cons hi
  have hr : rd l (i : Int) = l[i] := by unfold rd; rw [Int.toNat_natCast, List.getD_eq_getElem?_getD, List.getElem?_eq_getElem hi]; rfl
  have hw : wrap64 ((i : Int) + 1) = ((i + 1 : Nat) : Int) := by unfold wrap64; omega
  simp only [Pr.glush_Auto_of.l0]
  rw [if_pos (by omega), if_pos (by omega), if_pos (by omega), hr, hw, hd]
  generalize l[i] = p
  rw [List.filter_cons]
  by_cases h0 : p ≥ 0
  ·rw [if_pos h0]
   by_cases h1 : p < (a.syms.length : Int)
   ·rw [if_pos h1, if_pos (by omega)]
    by_cases h2 : rd a.syms p = s
    ·have hp : ofP a s p = true := (ofP_iff a s p).2 ⟨⟨h0, h1⟩, h2⟩
     rw [if_pos h2, if_pos (by omega), hp, if_pos rfl, ih k (i + 1) (out ++ [p]) (by omega) (by omega) (by simp; omega)]
     simp
    ·have hp : ofP a s p = false := by
      cases hx : ofP a s p with
      | false => rfl
      | true => exact (h2 ((ofP_iff a s p).1 hx).2).elim
     rw [if_neg h2, hp, if_neg (by simp), ih k (i + 1) out (by omega) (by omega) (by omega)]
   ·have hp : ofP a s p = false := by
     cases hx : ofP a s p with
     | false => rfl
     | true => exact (h1 ((ofP_iff a s p).1 hx).1.2).elim
    rw [if_neg h1, hp, if_neg (by simp), ih k (i + 1) out (by omega) (by omega) (by omega)]
  ·have hp : ofP a s p = false := by
    cases hx : ofP a s p with
    | false => rfl
    | true => exact (h0 ((ofP_iff a s p).1 hx).1.1).elim
   rw [if_neg h0, hp, if_neg (by simp), ih k (i + 1) out (by omega) (by omega) (by omega)]
theorem of_eq (a : AD) (s : Int) (l : List Int) (hl : l.length < 17592186044416) : Pr.glush_Auto_of.f (l.length + 1) a.syms a.null a.first a.last a.follow l s = some (l.filter (ofP a s)) := by
 have := of_loop a s l (by omega) l.length (l.length + 1) 0 [] (by omega) (by omega) (by simpa using hl)
 rw [List.drop_zero, List.nil_append] at this
 exact this
theorem mem_compact {zs : List Int} {x : Int} : x ∈ Lib.compact zs ↔ x ∈ zs := by
 unfold Lib.compact Lib.compactUpTo
 constructor
 ·intro h
  obtain ⟨i, hi, rfl⟩ := List.mem_map.1 h
  have hi' : i < zs.length := List.mem_range.1 (List.mem_filter.1 hi).1
  simp [getElem!_pos, hi']
 ·intro h
  have key : ∀ j, j < zs.length → ∃ i, i < zs.length ∧ Lib.keeps zs.toArray i = true ∧ zs.toArray[i]! = zs.toArray[j]! := by
   intro j
   induction j with
   | zero => exact fun h0 => ⟨0, h0, by simp [Lib.keeps], rfl⟩
   | succ j ih =>
    intro hj
    by_cases he : zs.toArray[j + 1]! = zs.toArray[j]!
    ·obtain ⟨i, h1, h2, h3⟩ := ih (by omega)
     exact ⟨i, h1, h2, h3.trans he.symm⟩
    ·exact ⟨j + 1, hj, by simp only [Lib.keeps, Nat.add_sub_cancel, decide_eq_true_eq]; exact .inr he, rfl⟩
  obtain ⟨j, hj, rfl⟩ := List.getElem_of_mem h
  obtain ⟨i, h1, h2, h3⟩ := key j hj
  refine List.mem_map.2 ⟨i, List.mem_filter.2 ⟨List.mem_range.2 h1, h2⟩, ?_⟩
  rw [h3]
  simp [getElem!_pos, hj]
def sortZ (l : List Int) : List Int := l.mergeSort fun x y => decide (x ≤ y)
theorem mem_sortZ {l : List Int} {x : Int} : x ∈ sortZ l ↔ x ∈ l := List.mem_mergeSort
theorem sortZ_length (l : List Int) : (sortZ l).length = l.length := by simp [sortZ]
theorem index_loop (l : List Int) (x : Int) (hl : l.length < 4611686018427387904) : ∀ (d k i : Nat), l.length = i + d → d < k → ∃ r, Pr.slices_Index_int_int.l0 k l x (l.length : Int) (i : Int) = some r ∧ (0 ≤ r ↔ x ∈ l.drop i) := by
 intro d
 induction d with
 | zero =>
  intro k i he hk
  obtain ⟨k, rfl⟩ : ∃ q, k = q + 1 := ⟨k - 1, by omega⟩
  refine ⟨-1, ?_, ?_⟩
  ·simp only [Pr.slices_Index_int_int.l0]
   rw [if_neg (by omega)]
  ·rw [List.drop_of_length_le (by omega)]; simp
 | succ d ih =>
  intro k i he hk
  obtain ⟨k, rfl⟩ : ∃ q, k = q + 1 := ⟨k - 1, by omega⟩
  have hi : i < l.length := by omega
  have hd : l.drop i = l[i] :: l.drop (i + 1) := List.drop_eq_getElem_cons hi
  have hr : rd l (i : Int) = l[i] := by unfold rd; rw [Int.toNat_natCast, List.getD_eq_getElem?_getD, List.getElem?_eq_getElem hi]; rfl
  have hw : wrap64 ((i : Int) + 1) = ((i + 1 : Nat) : Int) := by unfold wrap64; omega
  obtain ⟨r, h1, h2⟩ := ih k (i + 1) (by omega) (by omega)
  by_cases hx : x = l[i]
  ·refine ⟨(i : Int), ?_, ?_⟩
   ·simp only [Pr.slices_Index_int_int.l0]
    rw [if_pos (by omega), if_pos (by omega), if_pos (by omega), hr, if_pos hx]
   ·exact ⟨fun _ => by rw [hx, hd]; exact List.mem_cons_self, fun _ => by omega⟩
  ·refine ⟨r, ?_, ?_⟩
   ·simp only [Pr.slices_Index_int_int.l0]
    rw [if_pos (by omega), if_pos (by omega), if_pos (by omega), hr, if_neg hx, hw]
    exact h1
   ·rw [h2, hd, List.mem_cons]
    exact ⟨.inr, fun h => h.elim (fun h => (hx h).elim) id⟩
theorem contains_eq (l : List Int) (x : Int) (hl : l.length < 4611686018427387904) : ∃ b, Pr.slices_Contains_int_int.f (l.length + 1) l x = some b ∧ (b = true ↔ x ∈ l) := by
 obtain ⟨r, h1, h2⟩ := index_loop l x hl l.length (l.length + 1) 0 (by omega) (by omega)
 refine ⟨decide (r ≥ 0), ?_, ?_⟩
 ·unfold Pr.slices_Contains_int_int.f Pr.slices_Index_int_int.f
  have h1' : Pr.slices_Index_int_int.l0 (l.length + 1) l x (l.length : Int) 0 = some r := h1
  rw [h1', Option.bind_some]
 ·rw [decide_eq_true_iff, ge_iff_le, h2, List.drop_zero]
theorem rising_len : ∀ (l : List Int) (lo hi : Int), l.Pairwise (· < ·) → (∀ x ∈ l, lo ≤ x ∧ x < hi) → lo ≤ hi → (l.length : Int) ≤ hi - lo
 | [], lo, hi, _, _, h => by simp; omega
 | x :: l, lo, hi, hp, hx, h => by
  obtain ⟨h1, h2⟩ := List.pairwise_cons.1 hp
  have h3 := hx x List.mem_cons_self
  have ih := rising_len l (x + 1) hi h2 (fun y hy => ⟨by have := h1 y hy; omega, (hx y (List.mem_cons_of_mem _ hy)).2⟩) (by omega)
  rw [List.length_cons]
  omega
theorem compactUpTo_rising (d : Array Int) (hs : ∀ i j, i ≤ j → j < d.size → d[i]! ≤ d[j]!) : ∀ m, m ≤ d.size → (Lib.compactUpTo d m).Pairwise (· < ·) ∧ ∀ x ∈ Lib.compactUpTo d m, x ≤ d[m - 1]!
 | 0, _ => by simp [Lib.compactUpTo]
 | m + 1, hm => by
  obtain ⟨h1, h2⟩ := compactUpTo_rising d hs m (by omega)
  have he : Lib.compactUpTo d (m + 1) = Lib.compactUpTo d m ++ (if Lib.keeps d m = true then [d[m]!] else []) := by
   unfold Lib.compactUpTo
   rw [List.range_succ, List.filter_append, List.map_append, List.filter_cons]
   split <;> simp
  rw [he]
  rw [Nat.add_sub_cancel]
  by_cases hk : Lib.keeps d m = true
  ·rw [if_pos hk]
   refine ⟨List.pairwise_append.2 ⟨h1, List.pairwise_singleton _ _, fun x hx y hy => ?_⟩, fun x hx => ?_⟩
   ·rw [List.mem_singleton] at hy
    subst hy
    have h3 := h2 x hx
    unfold Lib.keeps at hk
    have hk2 := of_decide_eq_true hk
    rcases hk2 with rfl | hk2
    ·simp [Lib.compactUpTo] at hx
    ·have h4 := hs (m - 1) m (by omega) (by omega)
     omega
   ·rcases List.mem_append.1 hx with hx | hx
    ·have h3 := h2 x hx
     have h4 := hs (m - 1) m (by omega) (by omega)
     omega
    ·rw [List.mem_singleton] at hx; rw [hx]; exact Int.le_refl _
  ·rw [if_neg hk, List.append_nil]
   refine ⟨h1, fun x hx => ?_⟩
   have h3 := h2 x hx
   have h4 := hs (m - 1) m (by omega) (by omega)
   omega
theorem compact_sort_len (l : List Int) (n : Nat) (h : ∀ x ∈ l, 0 ≤ x ∧ x < (n : Int)) : (Lib.compact (sortZ l)).length ≤ n := by
 have hsort : (sortZ l).Pairwise (fun x y => decide (x ≤ y) = true) := List.pairwise_mergeSort (fun a b c => by simp only [decide_eq_true_eq]; omega) (fun a b => by simp only [Bool.or_eq_true, decide_eq_true_eq]; omega) l
 have hs : ∀ i j, i ≤ j → j < (sortZ l).toArray.size → (sortZ l).toArray[i]! ≤ (sortZ l).toArray[j]! := fun i j hij hj => by
  have hj' : j < (sortZ l).length := by simpa using hj
  have e1 : (sortZ l).toArray[i]! = (sortZ l)[i]'(by omega) := by simp [getElem!_pos, show i < (sortZ l).length by omega]
  have e2 : (sortZ l).toArray[j]! = (sortZ l)[j]'hj' := by simp [getElem!_pos, hj']
  rw [e1, e2]
  by_cases he : i = j
  ·subst he; exact Int.le_refl _
  ·have := List.pairwise_iff_getElem.1 hsort i j (by omega) hj' (by omega)
   exact of_decide_eq_true this
 obtain ⟨h1, _⟩ := compactUpTo_rising (sortZ l).toArray hs (sortZ l).length (by simp)
 have := rising_len (Lib.compact (sortZ l)) 0 n h1 (fun x hx => h x (mem_sortZ.1 (mem_compact.1 hx))) (by omega)
 omega
end Go.Proofs.YthocjdlcopmhiaaDoor.G
namespace Go.Proofs.YthocjdlcopmhiaaDoor.G
open Go.RowKit Go.Proofs.YthocjdlcopmhiaaDoorW.PrintWords Go.Proofs.YthocjdlcopmhiaaDoorW.PrintLast Go.Proofs.YthocjdlcopmhiaaDoorW.PrintMore
attribute [local go_sem] max2_int min2_int max_two min_two max_three min_three max_four min_four
set_option linter.unusedVariables false
set_option linter.unusedSimpArgs false
abbrev KI : Kd Int := Kd.int .i64
abbrev AB (a : AD) (A0 : Option Addr) (c0 : Nat) (A2 : Option Addr) (c2 : Nat) (A3 : Option Addr) (c3 : Nat) (A4 : Option Addr) (c4 : Nat) : Obj := .cells #[.slice A0 a.syms.length c0, .bool a.null, .slice A2 a.first.length c2, .slice A3 a.last.length c3, .slice A4 a.follow.length c4] 33 (0, 0)
abbrev AVl (a : AD) (A0 : Option Addr) (c0 : Nat) (A2 : Option Addr) (c2 : Nat) (A3 : Option Addr) (c3 : Nat) (A4 : Option Addr) (c4 : Nat) : Value := .agg #[.slice A0 a.syms.length c0, .bool a.null, .slice A2 a.first.length c2, .slice A3 a.last.length c3, .slice A4 a.follow.length c4]
structure ARead (w : World) (a : AD) (A0 : Option Addr) (c0 : Nat) (A2 : Option Addr) (c2 : Nat) (A3 : Option Addr) (c3 : Nat) (A4 : Option Addr) (c4 : Nat) : Prop where
 s : Kd.C KI w A0 a.syms.length a.syms
 s' : a.syms.length ≤ c0
 f : Kd.C KI w A2 a.first.length a.first
 f' : a.first.length ≤ c2
 l : Kd.C KI w A3 a.last.length a.last
 l' : a.last.length ≤ c3
 o : Kd.C (Kd.slice 3 KI) w A4 a.follow.length a.follow
 o' : a.follow.length ≤ c4
 n0 : a.syms.length ≤ 1024
 n2 : a.first.length ≤ 1024
 n3 : a.last.length ≤ 1024
 n4 : a.follow.length ≤ 1024
 nr : ∀ r ∈ a.follow, r.length ≤ 1024
section
variable {w w' : World} {a : AD} {A0 : Option Addr} {c0 : Nat} {A2 : Option Addr} {c2 : Nat} {A3 : Option Addr} {c3 : Nat} {A4 : Option Addr} {c4 : Nat}
theorem ARead.below (h : ARead w a A0 c0 A2 c2 A3 c3 A4 c4) (hb : Below w.heap.size w w') : ARead w' a A0 c0 A2 c2 A3 c3 A4 c4 :=
 ⟨Kd.C_below h.s hb, h.s', Kd.C_below h.f hb, h.f', Kd.C_below h.l hb, h.l', Kd.C_below h.o hb, h.o', h.n0, h.n2, h.n3, h.n4, h.nr⟩
theorem five {g : Nat} {t : TypeId} {v0 v1 v2 v3 v4 : Value} (h : w.heap[g]? = some (.cells #[v0, v1, v2, v3, v4] t (0, 0))) : w.cell? ⟨g, 0, none⟩ = some v0 ∧ w.cell? ⟨g, 1, none⟩ = some v1 ∧ w.cell? ⟨g, 2, none⟩ = some v2 ∧ w.cell? ⟨g, 3, none⟩ = some v3 ∧ w.cell? ⟨g, 4, none⟩ = some v4 :=
 ⟨(blk_cell h 0).trans rfl, (blk_cell h 1).trans rfl, (blk_cell h 2).trans rfl, (blk_cell h 3).trans rfl, (blk_cell h 4).trans rfl⟩
set_option maxHeartbeats 4000000 in
set_option maxRecDepth 100000 in
theorem ends1_calls (g : Nat) (p : Int) (hk : w.heap[g]? = some (AB a A0 c0 A2 c2 A3 c3 A4 c4)) (hr : ARead w a A0 c0 A2 c2 A3 c3 A4 c4) :
  Calls Tryd.prog 43 #[.int .i64 p, .pointer (some ⟨g, 0, none⟩)] w fun e w' => ∃ b : Bool, e = .returned (.bool b) ∧ (b = true ↔ p ∈ a.last) ∧ Below w.heap.size w w' := by
 have hu33 := Tryd.underlying33
 obtain ⟨b, hb1, hb2⟩ := contains_eq a.last p (by have := hr.n3; omega)
 have c3_ : w.cell? ⟨g, 3, none⟩ = some (.slice A3 a.last.length c3) := (blk_cell hk 3).trans rfl
 have HR := Lib.hid hr; have HB := Lib.hid hb2; have HB1 := Lib.hid hb1
 clear hk hr hb1 hb2
 go_enter Tryd.func43, Tryd.ntmps43
 go_wp2_with (fail)
 refine (Pr.slices_Contains_int_int.calls _ A3 c3 a.last p b w HR.out.l HR.out.l' HB1.out).mono ?_
 rintro e w1 ⟨rfl, hd⟩
 have HD := Lib.hid hd.below
 clear hd c3_
 go_wp2_with (fail)
 go_ret
 exact ⟨b, rfl, HB.out, HD.out⟩
set_option maxHeartbeats 4000000 in
set_option maxRecDepth 100000 in
theorem indexF_calls (g : Nat) (l : List Int) (Al : Option Addr) (cl : Nat) (hk : w.heap[g]? = some (AB a A0 c0 A2 c2 A3 c3 A4 c4)) (hr : ARead w a A0 c0 A2 c2 A3 c3 A4 c4) (hl : Kd.C KI w Al l.length l) (hll : l.length < 4611686018427387904) :
  Calls Tryd.prog 52 #[.slice Al l.length cl, .func (.func 43) #[] #[.pointer (some ⟨g, 0, none⟩)]] w fun e w' => ∃ r : Int, e = .returned (.int .i64 r) ∧ (0 ≤ r ↔ ∃ p ∈ l, p ∈ a.last) ∧ Below w.heap.size w w' := by
 have HK := Lib.hid hk; have HR := Lib.hid hr; have HL := Lib.hid hl; have HLL := Lib.hid hll
 clear hk hr hl hll
 go_enter Tryd.func52, Tryd.ntmps52
 go_wp2_with (fail)
 go_loopg [8] l.length (fun kq v8 w' => ∃ (q : Nat), v8 = .int .i64 q ∧ Hid (q ≤ l.length) ∧ Hid (kq = l.length - q) ∧ Hid (∀ p ∈ l.take q, ¬ p ∈ a.last) ∧ Hid (Below w.heap.size w w'))
 case atStart => exact ⟨0, rfl, Lib.hid (Nat.zero_le _), Lib.hid rfl, Lib.hid (fun p hp => by simp at hp), Lib.hid (Below.refl _ _)⟩
 case round =>
  obtain ⟨q, rfl, HQ, HKQ, HN, HB⟩ := hrel
  by_cases hlt : q < l.length
  case pos =>
   have hd1 : decide ((q : Int) < (l.length : Int)) = true := decide_eq_true (by omega)
   have hd2 : decide (q < l.length) = true := decide_eq_true hlt
   have hp0 : (0 ≤ (q : Int)) = True := eq_true (by omega)
   have hp1 : ((q : Int) < (l.length : Int)) = True := eq_true (by omega)
   have hp2 : (q < l.length) = True := eq_true hlt
   obtain ⟨ad, eal, hcl⟩ := Kd.at_int (Kd.C_below HL.out HB.out) (q : Int) (by omega) (by omega)
   subst eal
   rw [rd_getD_, Int.toNat_natCast] at hcl
   have hw : wrap64 ((q : Int) + 1) = ((q + 1 : Nat) : Int) := by have := HLL.out; unfold wrap64; omega
   have hpm : l.getD q 0 ∈ l := by rw [List.getD_eq_getElem?_getD, List.getElem?_eq_getElem hlt]; exact List.getElem_mem hlt
   have htk : l.take (q + 1) = l.take q ++ [l.getD q 0] := by rw [List.take_succ_eq_append_getElem hlt, List.getD_eq_getElem?_getD, List.getElem?_eq_getElem hlt]; rfl
   generalize hp : l.getD q 0 = p at hcl hpm htk
   have HPM := Lib.hid hpm; have HTK := Lib.hid htk; have HLT := Lib.hid hlt
   clear hlt hpm htk hp
   go_wp2_with (fail)
   refine (ends1_calls g p (blk_below HK.out HB.out) (HR.out.below HB.out)).mono ?_
   rintro e w3 ⟨b, rfl, hb2, hb3⟩
   have HB3 := Lib.hid (below_step HB.out hb3); have HI := Lib.hid hb2
   clear hb3 hb2 HB hcl
   cases b
   case true =>
    go_wp2_with (fail)
    go_ret
    exact ⟨q, rfl, ⟨fun _ => ⟨p, HPM.out, HI.out.1 (by simp)⟩, fun _ => by omega⟩, HB3.out⟩
   case false =>
    go_wp2_with (fail)
    go_roundg (l.length - (q + 1))
    case measure => have h1 := HLT.out; have h2 := HKQ.out; omega
    case rel => exact ⟨q + 1, by rw [hw], Lib.hid HLT.out, Lib.hid rfl, Lib.hid (fun x hx => by
     rw [HTK.out, List.mem_append, List.mem_singleton] at hx
     rcases hx with hx | rfl
     ·exact HN.out x hx
     ·exact fun h => by have := HI.out.2 h; cases this), HB3⟩
  case neg =>
   have hq : q = l.length := by have := HQ.out; omega
   have hd1 : decide ((q : Int) < (l.length : Int)) = false := decide_eq_false (by omega)
   have hd2 : decide (q < l.length) = false := decide_eq_false hlt
   have hn := HN.out
   rw [hq, List.take_of_length_le (Nat.le_refl _)] at hn
   have HN2 := Lib.hid hn
   clear hlt hn HN
   have HQ2 := Lib.hid hq; clear hq
   go_wp2_with (fail)
   go_ret
   exact ⟨-1, rfl, ⟨fun h => by omega, fun ⟨p, h1, h2⟩ => (HN2.out p h1 h2).elim⟩, HB.out⟩
set_option maxHeartbeats 4000000 in
theorem containsF_calls (g : Nat) (l : List Int) (Al : Option Addr) (cl : Nat) (hk : w.heap[g]? = some (AB a A0 c0 A2 c2 A3 c3 A4 c4)) (hr : ARead w a A0 c0 A2 c2 A3 c3 A4 c4) (hl : Kd.C KI w Al l.length l) (hll : l.length < 4611686018427387904) :
  Calls Tryd.prog 42 #[.slice Al l.length cl, .func (.func 43) #[] #[.pointer (some ⟨g, 0, none⟩)]] w fun e w' => ∃ b : Bool, e = .returned (.bool b) ∧ (b = true ↔ ∃ p ∈ l, p ∈ a.last) ∧ Below w.heap.size w w' := by
 have HK := Lib.hid hk; have HR := Lib.hid hr; have HL := Lib.hid hl; have HLL := Lib.hid hll
 clear hk hr hl hll
 go_enter Tryd.func42, Tryd.ntmps42
 go_wp2_with (fail)
 refine (indexF_calls g l Al cl HK.out HR.out HL.out HLL.out).mono ?_
 rintro e w1 ⟨r, rfl, h1, h2⟩
 have H1 := Lib.hid h1; have H2 := Lib.hid h2
 clear h1 h2
 go_wp2_with (fail)
 go_ret
 exact ⟨decide (r ≥ 0), rfl, by rw [decide_eq_true_iff, ge_iff_le]; exact H1.out, H2.out⟩
theorem eq_nil (a : Option Addr) (n c : Nat) (w : World) : (binOp .eql 25 (.slice a n c) (.slice none 0 0)).run Tryd.prog w = .ok (.bool a.isNone) w := Lib.run_eql_slice_nil w _ _ a n c 0 0 Tryd.underlying25
set_option maxHeartbeats 4000000 in
set_option maxRecDepth 100000 in
theorem ends_calls (l : List Int) (ad : Addr) (cl : Nat) (hr : ARead w a A0 c0 A2 c2 A3 c3 A4 c4) (hl : Kd.C KI w (some ad) l.length l) (hll : l.length < 4611686018427387904) :
  Calls Tryd.prog 24 #[AVl a A0 c0 A2 c2 A3 c3 A4 c4, .slice (some ad) l.length cl] w fun e w' => ∃ b : Bool, e = .returned (.bool b) ∧ (b = true ↔ ∃ p ∈ l, p ∈ a.last) ∧ Below w.heap.size w w' := by
 have hu33 := Tryd.underlying33
 have hq := fun w => eq_nil (some ad) l.length cl w
 have HR := Lib.hid hr; have HL := Lib.hid hl; have HLL := Lib.hid hll
 clear hr hl hll
 go_enter Tryd.func24, Tryd.ntmps24
 go_wp2_with (fail)
 have hby := below_alloc (Below.refl w.heap.size w) (AB a A0 c0 A2 c2 A3 c3 A4 c4)
 have KA : (w.alloc (AB a A0 c0 A2 c2 A3 c3 A4 c4)).heap[w.heap.size]? = some (AB a A0 c0 A2 c2 A3 c3 A4 c4) := blk_new w _
 refine (containsF_calls w.heap.size l (some ad) cl KA (HR.out.below hby) (Kd.C_below HL.out hby) HLL.out).mono ?_
 rintro e w1 ⟨b, rfl, h1, h2⟩
 have H1 := Lib.hid h1; have H2 := Lib.hid (below_step hby h2)
 clear h1 h2 hby KA
 go_wp2_with (fail)
 go_ret
 exact ⟨b, rfl, H1.out, H2.out⟩
set_option maxHeartbeats 4000000 in
theorem ends_nil (hr : ARead w a A0 c0 A2 c2 A3 c3 A4 c4) :
  Calls Tryd.prog 24 #[AVl a A0 c0 A2 c2 A3 c3 A4 c4, .slice none 0 0] w fun e w' => e = .returned (.bool a.null) ∧ Below w.heap.size w w' := by
 have hu33 := Tryd.underlying33
 have hq := fun w => eq_nil none 0 0 w
 clear hr
 go_enter Tryd.func24, Tryd.ntmps24
 go_wp2_with (fail)
 go_ret
 exact ⟨rfl, below_alloc (Below.refl w.heap.size w) _⟩
end
end Go.Proofs.YthocjdlcopmhiaaDoor.G
