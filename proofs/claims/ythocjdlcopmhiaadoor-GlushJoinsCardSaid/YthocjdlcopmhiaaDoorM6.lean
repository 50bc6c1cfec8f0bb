import Derived.Test.YthocjdlcopmhiaaDoorProg
import Derived.Below
import Derived.Deep.Draws
import Derived.Deep.AppendLies
import Derived.Maps.AppendAt
import Derived.OwnWalk
import Derived.Laws.BytesArg
import Derived.Laws.MakeOwn
import Derived.Laws.OwnMore
import Derived.Deep.OwnRows
import Derived.Tactics
import Derived.Lib.ConvBytes
import Derived.Laws.Slices
import Derived.WalkKit
import Derived.KernelRfl
import Derived.RowKit3
import Derived.Deep.LoopGhost
import Derived.Deep.QuietTactic
import Derived.BigQuiet
import Derived.WideLaws
import Derived.Deep.DeepCutAuto
import Derived.Deep.CutBlock
import Derived.Deep.RegionHeld3
import Derived.Laws.Rows
import Derived.Lib.AppendStr
import Derived.ArgAppend
import Derived.Laws.IdiomCopy
import Derived.OrdersHeld
import Derived.Laws.BitsLemmas
import Derived.RowKit
import Derived.Test.YthocjdlcopmhiaaDoorWWords
import Derived.Test.YthocjdlcopmhiaaDoorWLast
import Derived.Test.YthocjdlcopmhiaaDoorWTab
import Derived.Test.YthocjdlcopmhiaaDoorWQPut
import Derived.Test.YthocjdlcopmhiaaDoorWApart
import Derived.Test.YthocjdlcopmhiaaDoorWArr
import Derived.Test.YthocjdlcopmhiaaDoorWZeros
import Derived.Test.YthocjdlcopmhiaaDoorWFoot
import Derived.Test.YthocjdlcopmhiaaDoorWKept
import Derived.Test.YthocjdlcopmhiaaDoorWShare
import Derived.Test.YthocjdlcopmhiaaDoorWN
import Derived.Test.YthocjdlcopmhiaaDoorWRepsOne
import Derived.Test.YthocjdlcopmhiaaDoorWGuard
import Derived.Test.YthocjdlcopmhiaaDoorWNEv
import Derived.Test.YthocjdlcopmhiaaDoorWMore
import Derived.Test.YthocjdlcopmhiaaDoorWEqStruct
import Derived.Test.YthocjdlcopmhiaaDoorWFour
import Derived.Test.YthocjdlcopmhiaaDoorWFootNe
import Derived.Test.YthocjdlcopmhiaaDoorWAt
import Derived.Test.YthocjdlcopmhiaaDoorWInv
import Derived.Test.YthocjdlcopmhiaaDoorWInvWords
import Derived.Test.YthocjdlcopmhiaaDoorM5
import Derived.RangeFuncNested
import Derived.RangeFuncBound
import Derived.RangeFuncCalls
import Derived.RangeFuncLeaves
import Derived.Shelf.Abstract
import Derived.Shelf.RegionOpen
import Derived.OwnWalkIn
import Derived.TacticsInMore
import Derived.LoopNIn
import Derived.LoopIn
import Derived.Test.YthocjdlcopmhiaaDoorM3
namespace Go.Proofs.YthocjdlcopmhiaaDoor.G
open Go.RowKit Go.Proofs.YthocjdlcopmhiaaDoorW.PrintWords Go.Proofs.YthocjdlcopmhiaaDoorW.PrintLast Go.Proofs.YthocjdlcopmhiaaDoorW.PrintMore
attribute [local go_sem] max2_int min2_int max_two min_two max_three min_three max_four min_four
set_option linter.unusedVariables false
set_option linter.unusedSimpArgs false
attribute [local go_sem] Oper.semAt_some
theorem cellK {W W2 : World} {S : Nat → Prop} {a : Addr} {v : Value} (hc : W.cell? a = some v) (hk : Kept W W2 S) (hne : ¬ S a.block) : W2.cell? a = some v := Go.Proofs.YthocjdlcopmhiaaDoorW.PrintWords.cell_kept hc hk hne
def down (len : Nat) : Nat → List { j : Nat // j < len }
 | 0 => []
 | m + 1 => down len m ++ (if h : len - 1 - m < len then [⟨len - 1 - m, h⟩] else [])
theorem down_succ {len m : Nat} (h : m < len) : down len (m + 1) = down len m ++ [⟨len - 1 - m, by omega⟩] := by
 show down len m ++ _ = _
 rw [dif_pos (by omega)]
theorem down_length {len : Nat} : ∀ {m : Nat}, m ≤ len → (down len m).length = m
 | 0, _ => rfl
 | m + 1, h => by rw [down_succ (by omega), List.length_append, down_length (by omega)]; rfl
theorem down_map {α : Type} (l : List α) (z : α) : ∀ {m : Nat}, m ≤ l.length → (down l.length m).map (fun x => l.getD x.1 z) = l.reverse.take m
 | 0, _ => rfl
 | m + 1, h => by
  rw [down_succ (by omega), List.map_append, down_map l z (by omega), List.take_add_one, List.getElem?_reverse (by omega), List.map_cons, List.map_nil]
  congr 1
  show [l.getD (l.length - 1 - m) z] = _
  rw [List.getD_eq_getElem?_getD, List.getElem?_eq_getElem (by omega)]
  rfl
abbrev BEnc (len : Nat) (zs : Nat → Value × Value × Value) (x : { j : Nat // j < len }) : Array Value := #[.int .i64 (x.1 : Int), .agg #[(zs x.1).1, (zs x.1).2.1, (zs x.1).2.2]]
set_option maxRecDepth 100000 in
set_option maxHeartbeats 4000000 in
theorem back1_in (F : Fence) (n : Nat) (h53 : F.fn 53) (hro : F.round = none) (hn : 1 ≤ n) (l Bs : Nat) (A : Option Addr) (len cap : Nat) (zs : Nat → Value × Value × Value) (hone : ∀ j, j < len → ((zs j).1.oneCell' = true ∧ (zs j).2.1.oneCell' = true ∧ (zs j).2.2.oneCell' = true)) (hlen : len ≤ 4096) (S : Nat → Prop) (hS : ¬ S Bs) (J Jx : List { j : Nat // j < len } → World → Prop)
  (hY : ∀ pre x W, J pre W → pre.length < len → YieldAt F (n - 1) Tryd.prog l (BEnc len zs x) W fun e W' =>
   (e = .returned (.bool true) ∧ J (pre ++ [x]) W' ∧ Kept W W' S) ∨ (e = .returned (.bool false) ∧ Jx (pre ++ [x]) W'))
  (W : World) (hBs : W.cell? ⟨Bs, 0, none⟩ = some (.slice A len cap))
  (hc : ∀ j : Int, 0 ≤ j → j < len → ∃ gl o, A = some ⟨gl, o, none⟩ ∧ W.cell? ⟨gl, o + j.toNat * 3, none⟩ = some (zs j.toNat).1 ∧ W.cell? ⟨gl, o + j.toNat * 3 + 1, none⟩ = some (zs j.toNat).2.1 ∧ W.cell? ⟨gl, o + j.toNat * 3 + 2, none⟩ = some (zs j.toNat).2.2 ∧ ¬ S gl) (h0 : J [] W) :
  CallsIn F n Tryd.prog 53 #[.func (.yield l) #[] #[], .pointer (some ⟨Bs, 0, none⟩)] W fun e W' => (∃ v, e = .returned v) ∧
   ((∃ ys, ys = down len len ∧ J ys W') ∨ (∃ pre : List { j : Nat // j < len }, True ∧ Jx pre W')) := by
 have hu54 := Tryd.underlying54
 refine callsIn_of_wp Tryd.func53 rfl h53 ?_ hro
 simp only [Tryd.ntmps53, List.size_toArray, List.length_cons, List.length_nil, Nat.reduceAdd, Nat.reduceSub, Array.replicate_succ, Array.replicate_zero, List.push_toArray, List.append_toArray, List.nil_append, List.cons_append]
 gi_wp2
 gi_loopw [3] (fun p wr => ∃ (m : Nat) (i : Int), m ≤ len ∧ p = .int .i64 i ∧ i = (len : Int) - 1 - m ∧ J (down len m) wr ∧ Kept W wr S)
  (fun p _ => (intOf p + 1).toNat)
 case atStart => exact ⟨0, (len : Int) - 1, Nat.zero_le _, by first | rfl | (congr 1; unfold wrap64; omega), by omega, h0, Kept.refl _ _⟩
 case round =>
  obtain ⟨m, i, hm, rfl, hi, hJs, hk⟩ := hrel
  by_cases hlt : 0 ≤ i
  ·obtain ⟨gl, o, rfl, c0, c1, c2, hns⟩ := hc i hlt (by omega)
   have q0 := cellK c0 hk hns; have q1 := cellK c1 hk hns; have q2 := cellK c2 hk hns
   have qB := cellK hBs hk hS
   have hil : i < (len : Int) := by omega
   obtain ⟨o0, o1, o2⟩ := hone i.toNat (by omega)
   obtain ⟨xx, hxx, hxv⟩ : ∃ x : { j : Nat // j < len }, down len (m + 1) = down len m ++ [x] ∧ x.1 = i.toNat := ⟨⟨len - 1 - m, by omega⟩, down_succ (by omega), by show len - 1 - m = i.toNat; omega⟩
   obtain ⟨fn, tmps, assign, body, hy, hR⟩ := hY _ xx wr hJs (by rw [down_length hm]; omega)
   have ei' : ((i.toNat : Nat) : Int) = i := by omega
   dsimp only [BEnc] at hy
   rw [hxv, ei'] at hy
   have HI := Lib.hid hi; have HM := Lib.hid hm; have HIL := Lib.hid hil; have HL := Lib.hid hlt
   have i0 : (0 ≤ i) = True := eq_true hlt
   have i1 : (i < (len : Int)) = True := eq_true hil
   clear c0 c1 c2 hBs hc hi hm hil hlt ei'
   generalize zs i.toNat = z at q0 q1 q2 o0 o1 o2 hy
   obtain ⟨z0, z1, z2⟩ := z
   dsimp only at q0 q1 q2 o0 o1 o2 hy
   gi_wp2
   refine hR.mono ?_
   rintro e W3 (⟨rfl, hJ3, hk3⟩ | ⟨rfl, hJx3⟩)
   ·gi_wp2
    go_roundw
    case rel => have hi := HI.out; have hm := HM.out; have hil := HIL.out; have hlt := HL.out; have hw : wrap64 (i - 1) = i - 1 := (by unfold wrap64; omega); exact ⟨m + 1, i - 1, by omega, by rw [hw], by omega, by rw [hxx]; exact hJ3, hk.then_ hk3 (fun _ h => .inl h)⟩
    case measure => have hi := HI.out; have hm := HM.out; have hil := HIL.out; have hlt := HL.out; simp only [intOf]; unfold wrap64; omega
   ·gi_wp2
    refine bodyPost_ret (results_none rfl _ _ _) rfl ?_
    exact ⟨⟨_, rfl⟩, .inr ⟨_, trivial, hJx3⟩⟩
  ·obtain rfl : m = len := by omega
   have i0 : (0 ≤ i) = False := eq_false hlt
   clear hi
   gi_wp2
   go_end0
   exact ⟨⟨_, rfl⟩, .inl hJs⟩
set_option maxHeartbeats 1000000 in
theorem back_in (F : Fence) (n : Nat) (h47 : F.fn 47) (hro : F.round = none) (A : Option Addr) (len cap : Nat) (w : World) :
  CallsIn F n Tryd.prog 47 #[.slice A len cap] w fun e w' => e = .returned (.func (.func 53) #[] #[.pointer (some ⟨w.heap.size, 0, none⟩)]) ∧ w' = w.alloc (.cells #[.slice A len cap] 89) := by
 refine callsIn_of_wp Tryd.func47 rfl h47 ?_ hro
 simp only [Tryd.ntmps47, List.size_toArray, List.length_cons, List.length_nil, Nat.reduceAdd, Nat.reduceSub, Array.replicate_succ, Array.replicate_zero, List.push_toArray, List.append_toArray, List.nil_append, List.cons_append]
 gi_wp2
 go_ret
 exact ⟨rfl, rfl⟩
theorem back_stops (F : Fence) (n : Nat) (h53 : F.fn 53) (hro : F.round = none) (hn : 1 ≤ n) (Bs : Nat) (A : Option Addr) (len cap : Nat) (zs : Nat → Value × Value × Value) (hone : ∀ j, j < len → ((zs j).1.oneCell' = true ∧ (zs j).2.1.oneCell' = true ∧ (zs j).2.2.oneCell' = true)) (hlen : len ≤ 4096) (S : Nat → Prop) (hS : ¬ S Bs)
  (w : World) (hB : Bs < w.heap.size) (hBs : w.cell? ⟨Bs, 0, none⟩ = some (.slice A len cap))
  (hc : ∀ j : Int, 0 ≤ j → j < len → ∃ gl o, A = some ⟨gl, o, none⟩ ∧ w.cell? ⟨gl, o + j.toNat * 3, none⟩ = some (zs j.toNat).1 ∧ w.cell? ⟨gl, o + j.toNat * 3 + 1, none⟩ = some (zs j.toNat).2.1 ∧ w.cell? ⟨gl, o + j.toNat * 3 + 2, none⟩ = some (zs j.toNat).2.2 ∧ ¬ S gl) :
  SeqStopsK F n Tryd.prog 53 #[.pointer (some ⟨Bs, 0, none⟩)] (BEnc len zs) (fun A B => Kept A B S) (fun ys => ys = down len len) (fun _ => True) len w := fun l J Jx W hW _ _ hY h0 =>
 back1_in F n h53 hro hn l Bs A len cap zs hone hlen S hS J Jx hY W (cell_below hBs hW) (fun j j0 j1 => by
  obtain ⟨gl, o, h1, h2, h3, h4, h5⟩ := hc j j0 j1
  exact ⟨gl, o, h1, cell_below h2 hW, cell_below h3 hW, cell_below h4 hW, h5⟩) h0
end Go.Proofs.YthocjdlcopmhiaaDoor.G
namespace Go.Proofs.YthocjdlcopmhiaaDoor.G
open Go.RowKit Go.Proofs.YthocjdlcopmhiaaDoorW.PrintWords Go.Proofs.YthocjdlcopmhiaaDoorW.PrintLast Go.Proofs.YthocjdlcopmhiaaDoorW.PrintMore
attribute [local go_sem] max2_int min2_int max_two min_two max_three min_three max_four min_four
set_option linter.unusedVariables false
set_option linter.unusedSimpArgs false
theorem setOk_of {n : Int} {R : Nat} {s : List Int} (h : setOkB n R s = true) : SetOk n R s := by
 unfold setOkB at h
 simp only [Bool.and_eq_true, decide_eq_true_eq, List.all_eq_true, Bool.or_eq_true, Bool.not_eq_true', List.mem_range] at h
 obtain ⟨⟨h1, h2⟩, h3⟩ := h
 refine ⟨h1, h2, fun p hp => ?_⟩
 by_cases hl : p < 64 * nw n
 ·rcases h3 p hl with h4 | h4
  ·unfold Mem at hp; rw [hp] at h4; cases h4
  ·exact h4
 ·unfold Mem at hp
  rw [wd_out (by omega), Nat.zero_testBit] at hp
  cases hp
theorem setOkB_of {n : Int} {R : Nat} {s : List Int} (h : SetOk n R s) : setOkB n R s = true := by
 unfold setOkB
 simp only [Bool.and_eq_true, decide_eq_true_eq, List.all_eq_true, Bool.or_eq_true, Bool.not_eq_true', List.mem_range]
 refine ⟨⟨h.len, h.ok⟩, fun p _ => ?_⟩
 by_cases hp : Mem s p
 ·exact .inr (h.lt p hp)
 ·exact .inl (by unfold Mem at hp; simpa using hp)
theorem SetOk.mono {n : Int} {R R' : Nat} {s : List Int} (h : SetOk n R s) (hR : R ≤ R') : SetOk n R' s := ⟨h.len, h.ok, fun p hp => Nat.lt_of_lt_of_le (h.lt p hp) hR⟩
theorem mem_in {n : Int} {R : Nat} {s : List Int} (h : SetOk n R s) {p : Nat} (hp : Mem s p) : p / 64 < nw n := Nat.lt_of_not_le (fun hl => by
 unfold Mem at hp
 rw [wd_out (by rw [h.len]; exact hl), Nat.zero_testBit] at hp
 cases hp)
theorem nw_le (n : Int) (h : n ≤ 512) : nw n ≤ 8 := by unfold nw; omega
theorem fresh_mem (n : Int) (p : Nat) : ¬ Mem (freshF n) p := by
 unfold Mem freshF wd
 rw [List.getD_eq_getElem?_getD]
 by_cases h : p / 64 < nw n
 ·rw [List.getElem?_replicate, if_pos h]; simp
 ·rw [List.getElem?_replicate, if_neg h]; simp
theorem fresh_ok (n : Int) (R : Nat) : SetOk n R (freshF n) := ⟨by simp [freshF], fun x hx => by rw [List.eq_of_mem_replicate hx]; omega, fun p hp => (fresh_mem n p hp).elim⟩
def RowsOk (n : Int) (rows : List (List Int)) : Prop := ∀ i, SetOk n rows.length (rows.getD i (freshF n))
theorem rowsD {rows : List (List Int)} {i : Nat} (n : Int) (hi : i < rows.length) : rows.getD i (freshF n) = rows.getD i [] := by
 rw [List.getD_eq_getElem?_getD, List.getD_eq_getElem?_getD, List.getElem?_eq_getElem hi]; rfl
theorem join_ok (k : Nat) (n : Int) (R : Nat) (hn : n ≤ 512) (hk : 4096 ≤ k) {a b : List Int} (ha : SetOk n R a) (hb : SetOk n R b) : ∃ r, Pr.glush_set_join.f k a b = some r ∧ SetOk n R r ∧ ∀ p, Mem r p ↔ Mem a p ∨ Mem b p := by
 have h8 := nw_le n hn
 obtain ⟨r, h1, h2, h3, h4⟩ := join_eq k a b ha.ok hb.ok (by rw [ha.len, hb.len]; exact Nat.le_refl _) (by rw [ha.len]; omega) (by rw [ha.len]; omega)
 have h5 : ∀ p, Mem r p ↔ Mem a p ∨ Mem b p := fun p => by
  by_cases hp : p / 64 < a.length
  ·exact h4 p hp
  ·constructor
   ·intro h
    unfold Mem at h
    rw [wd_out (by rw [h2]; omega), Nat.zero_testBit] at h
    cases h
   ·rintro (h | h)
    ·exact (hp (by rw [ha.len]; exact mem_in ha h)).elim
    ·exact (hp (by rw [ha.len]; exact mem_in hb h)).elim
 exact ⟨r, h1, ⟨h2.trans ha.len, h3, fun p hp => ((h5 p).1 hp).elim (ha.lt p) (hb.lt p)⟩, h5⟩
theorem rows_set {n : Int} {rows : List (List Int)} (h : RowsOk n rows) {i : Nat} {r : List Int} (hr : SetOk n rows.length r) : RowsOk n (rows.set i r) := fun j => by
 rw [List.length_set, List.getD_eq_getElem?_getD, List.getElem?_set]
 by_cases hij : i = j
 ·subst hij
  by_cases hi : i < rows.length
  ·simp [hi]; exact hr
  ·have := h i
   rw [List.getD_eq_getElem?_getD, List.getElem?_eq_none (by omega)] at this
   simp [hi]; exact fresh_ok n _
 ·have := h j
  rw [List.getD_eq_getElem?_getD] at this
  simp [hij]; exact this
theorem set_row {n : Int} {rows : List (List Int)} {i j : Nat} {r : List Int} (hi : i < rows.length) : (rows.set i r).getD j (freshF n) = if j = i then r else rows.getD j (freshF n) := by
 rw [List.getD_eq_getElem?_getD, List.getD_eq_getElem?_getD, List.getElem?_set]
 by_cases h : i = j
 ·subst h; simp [hi]
 ·simp [h, Ne.symm h]
theorem linkL_ok (k : Nat) (n : Int) (hn : n ≤ 512) (hk : 4096 ≤ k) {y : List Int} : ∀ (l : List Int) (rows : List (List Int)), RowsOk n rows → SetOk n rows.length y → (∀ p ∈ l, 0 ≤ p ∧ p < (rows.length : Int)) →
  ∃ rows', linkL k y l rows = some rows' ∧ rows'.length = rows.length ∧ RowsOk n rows' ∧ ∀ i p, Mem (rows'.getD i (freshF n)) p ↔ Mem (rows.getD i (freshF n)) p ∨ ((i : Int) ∈ l ∧ Mem y p)
 | [], rows, h, _, _ => ⟨rows, rfl, rfl, h, fun i p => by simp⟩
 | x :: l, rows, h, hy, hl => by
  obtain ⟨h0, h1⟩ := hl x List.mem_cons_self
  obtain ⟨q, rfl⟩ : ∃ q : Nat, x = q := ⟨x.toNat, by omega⟩
  have hq : q < rows.length := by omega
  obtain ⟨r, hr, hro, hrm⟩ := join_ok k n rows.length hn hk (h q) hy
  obtain ⟨rows', e1, e2, e3, e4⟩ := linkL_ok k n hn hk (y := y) l (rows.set q r) (rows_set h hro) (by rw [List.length_set]; exact hy) (fun p hp => by rw [List.length_set]; exact hl p (List.mem_cons_of_mem _ hp))
  refine ⟨rows', ?_, by rw [e2, List.length_set], e3, fun i p => ?_⟩
  ·unfold linkL
   rw [if_pos h0, if_pos h1, Int.toNat_natCast, ← rowsD n hq, hr, Option.bind_some]
   exact e1
  ·rw [e4 i p, set_row hq]
   by_cases hi : i = q
   ·subst hi
    rw [if_pos rfl, hrm p]
    simp only [List.mem_cons, true_or, true_and]
    constructor
    ·rintro ((h | h) | ⟨_, h⟩)
     ·exact .inl h
     ·exact .inr h
     ·exact .inr h
    ·rintro (h | h)
     ·exact .inl (.inl h)
     ·exact .inl (.inr h)
   ·rw [if_neg hi]
    simp only [List.mem_cons, Int.natCast_inj, hi, false_or]
theorem list_ok (k : Nat) (n : Int) (R : Nat) (hn : n ≤ 512) (hk : 4096 ≤ k) {s : List Int} (hs : SetOk n R s) : ∃ L, Pr.glush_set_list.f k s = some L ∧ L.length ≤ 512 ∧ ∀ p : Int, p ∈ L ↔ ∃ q : Nat, p = (q : Int) ∧ Mem s q := by
 have h8 := nw_le n hn
 obtain ⟨L, h1, h2, h3⟩ := list_eq k s hs.ok (by rw [hs.len]; omega) (by rw [hs.len]; omega)
 refine ⟨L, h1, by rw [hs.len] at h2; omega, fun p => ?_⟩
 rw [h3 p]
 constructor
 ·rintro ⟨q, e, _, h⟩; exact ⟨q, e, h⟩
 ·rintro ⟨q, e, h⟩; exact ⟨q, e, by rw [hs.len]; exact mem_in hs h, h⟩
theorem link_ok (k : Nat) (n : Int) (hn : n ≤ 512) (hk : 4096 ≤ k) {rows : List (List Int)} {x y : List Int} (h : RowsOk n rows) (hx : SetOk n rows.length x) (hy : SetOk n rows.length y) :
  ∃ rows', linkF k rows x y = some rows' ∧ rows'.length = rows.length ∧ RowsOk n rows' ∧ ∀ i p, Mem (rows'.getD i (freshF n)) p ↔ Mem (rows.getD i (freshF n)) p ∨ (Mem x i ∧ Mem y p) := by
 obtain ⟨L, h1, _, h3⟩ := list_ok k n rows.length hn hk hx
 obtain ⟨rows', e1, e2, e3, e4⟩ := linkL_ok k n hn hk (y := y) L rows h hy (fun p hp => by
  obtain ⟨q, rfl, hq⟩ := (h3 p).1 hp
  have := hx.lt q hq
  omega)
 refine ⟨rows', by unfold linkF; rw [h1, Option.bind_some]; exact e1, e2, e3, fun i p => ?_⟩
 rw [e4 i p, h3]
 constructor
 ·rintro (h | ⟨⟨q, e, hq⟩, h⟩)
  ·exact .inl h
  ·obtain rfl : i = q := by omega
   exact .inr ⟨hq, h⟩
 ·rintro (h | ⟨h1, h⟩)
  ·exact .inl h
  ·exact .inr ⟨⟨i, rfl, h1⟩, h⟩
structure PtOk (n : Int) (R : Nat) (x : Pt) : Prop where
 f : SetOk n R x.2.1
 l : SetOk n R x.2.2
theorem clone_ok {n : Int} {R : Nat} {s : List Int} (hn : n ≤ 512) (h : SetOk n R s) : slices_Clone_set.f s = some s := by
 have h8 := nw_le n hn
 unfold slices_Clone_set.f
 rw [if_pos (by rw [h.len]; omega)]
theorem seqPt_ok (k : Nat) (n : Int) (hn : n ≤ 512) (hk : 4096 ≤ k) {rows : List (List Int)} {x y : Pt} (h : RowsOk n rows) (hx : PtOk n rows.length x) (hy : PtOk n rows.length y) :
  ∃ o, seqPt k rows x y = some o ∧ o.2.length = rows.length ∧ RowsOk n o.2 ∧ PtOk n rows.length o.1 ∧ o.1.1 = (x.1 && y.1) ∧ (∀ i p, Mem (o.2.getD i (freshF n)) p ↔ Mem (rows.getD i (freshF n)) p ∨ (Mem x.2.2 i ∧ Mem y.2.1 p)) ∧
   (∀ p, Mem o.1.2.1 p ↔ Mem x.2.1 p ∨ (x.1 = true ∧ Mem y.2.1 p)) ∧ (∀ p, Mem o.1.2.2 p ↔ Mem y.2.2 p ∨ (y.1 = true ∧ Mem x.2.2 p)) := by
 obtain ⟨rows', e1, e2, e3, e4⟩ := link_ok k n hn hk h hx.l hy.f
 obtain ⟨f, f1, f2, f3⟩ : ∃ f, (if x.1 = true then Pr.glush_set_join.f k x.2.1 y.2.1 else some x.2.1) = some f ∧ SetOk n rows.length f ∧ ∀ p, Mem f p ↔ Mem x.2.1 p ∨ (x.1 = true ∧ Mem y.2.1 p) := by
  by_cases hb : x.1 = true
  ·obtain ⟨r, h1, h2, h3⟩ := join_ok k n rows.length hn hk hx.f hy.f
   exact ⟨r, by rw [if_pos hb]; exact h1, h2, fun p => by rw [h3 p]; simp [hb]⟩
  ·exact ⟨x.2.1, by rw [if_neg hb], hx.f, fun p => by simp [hb]⟩
 obtain ⟨l, l1, l2, l3⟩ : ∃ l, (if y.1 = true then Pr.glush_set_join.f k y.2.2 x.2.2 else some y.2.2) = some l ∧ SetOk n rows.length l ∧ ∀ p, Mem l p ↔ Mem y.2.2 p ∨ (y.1 = true ∧ Mem x.2.2 p) := by
  by_cases hb : y.1 = true
  ·obtain ⟨r, h1, h2, h3⟩ := join_ok k n rows.length hn hk hy.l hx.l
   exact ⟨r, by rw [if_pos hb]; exact h1, h2, fun p => by rw [h3 p]; simp [hb]⟩
  ·exact ⟨y.2.2, by rw [if_neg hb], hy.l, fun p => by simp [hb]⟩
 refine ⟨((x.1 && y.1, f, l), rows'), ?_, e2, e3, ⟨f2, l2⟩, rfl, e4, f3, l3⟩
 unfold seqPt
 rw [e1, Option.bind_some, clone_ok hn hx.f, Option.bind_some, clone_ok hn hy.l, Option.bind_some, f1, Option.bind_some, l1, Option.bind_some]
end Go.Proofs.YthocjdlcopmhiaaDoor.G
namespace Go.Proofs.YthocjdlcopmhiaaDoor.G
open Go.RowKit Go.Proofs.YthocjdlcopmhiaaDoorW.PrintWords Go.Proofs.YthocjdlcopmhiaaDoorW.PrintLast Go.Proofs.YthocjdlcopmhiaaDoorW.PrintMore
attribute [local go_sem] max2_int min2_int max_two min_two max_three min_three max_four min_four
set_option linter.unusedVariables false
set_option linter.unusedSimpArgs false
attribute [local go_sem] Oper.semAt_some
theorem keepsFrom_of_kept {B : Nat} {W W' : World} {S : Nat → Prop} (h : Kept W W' S) (hS : ∀ q, B ≤ q → ¬ S q) : KeepsFrom B W W' := ⟨h.1, fun k o hB hk _ => (h.2 k (Array.getElem?_eq_some_iff.1 hk).1 (hS k hB)).trans hk⟩
theorem kept_putObj {W : World} {S : Nat → Prop} (l : Nat) (o : Obj) (h : S l) : Kept W (W.putObj l o) S := by
 have hg := grownBy_putObj' W l o
 exact ⟨hg.size, fun i hi hn => hg.block i hi (fun e => hn (by cases e; exact h))⟩
theorem tail_snoc (k : Nat) (x : Pt) : ∀ (l : List Pt) (o : Pt) (rows : List (List Int)), tailPts k (l ++ [x]) o rows = (tailPts k l o rows).bind fun t => (seqPt k t.2 x t.1).bind fun z => some ((true, z.1.2.1, z.1.2.2), z.2)
 | [], o, rows => rfl
 | y :: l, o, rows => by
  show (seqPt k rows y o).bind _ = ((seqPt k rows y o).bind _).bind _
  cases seqPt k rows y o with
  | none => rfl
  | some z => exact tail_snoc k x l _ _
def TailI (w0 w9 : World) (b g gt : Nat) (Z : Nat → Prop) (n : Int) (k : Nat) (syms : List Int) (l : List Pt) (rows0 : List (List Int)) (pre : List { j : Nat // j < l.length }) (W : World) : Prop :=
 ∃ (o : Pt) (rw_ : List (List Int)) (A5 : Option Addr) (c5 : Nat) (A6 : Option Addr) (c6 : Nat), tailPts k (pre.map (fun x => l.getD x.1 (false, [], []))) (fresh0 n true) rows0 = some (o, rw_) ∧ (RowsOk n rw_ ∧ rw_.length = rows0.length ∧ PtOk n rows0.length o) ∧ Bd w0 W g Z n syms rw_ ∧ Below w0.heap.size w0 W ∧ Kept w9 W (fun q => Z q ∨ q = gt) ∧
  W.heap[gt]? = some (.cells #[.bool o.1, .slice A5 o.2.1.length c5, .slice A6 o.2.2.length c6] 54 (0, 0)) ∧ Kd.R KU 77 W b (fun q => ¬ Z q) (.slice A5 o.2.1.length c5) o.2.1 ∧ Kd.R KU 77 W b (fun q => ¬ Z q) (.slice A6 o.2.2.length c6) o.2.2
theorem R_row {W W' : World} {row : Option Nat} {e b B : Nat} {ok : Nat → Prop} {v : Value} {xs : List Int} (h : Kd.R KU e W b ok v xs) (hg : W.grownBy W' row) (hr : ∀ r, row = some r → B ≤ r ∧ ∃ o : Obj, W.heap[r]? = some o ∧ o.isCells = false) : Kd.R KU e W' b ok v xs := by
 refine Kd.R_mono (Kd.R_kept (S := fun q => some q = row) (Kd.R_mono (Kd.R_bound h) (ok' := fun q => ok q ∧ ¬ some q = row) (fun q hq => ⟨hq.1, fun e => ?_⟩)) ⟨hg.size, fun i hi hn => hg.block i hi hn⟩ (fun q h => h.2)) (fun q h => h.1)
 obtain ⟨_, _, _, t, _, cells, hc⟩ := hq
 obtain ⟨_, o, ho, hn⟩ := hr q e.symm
 rw [hc] at ho
 cases ho
 cases hn
theorem TailI.own {w0 w9 : World} {b g gt : Nat} {Z : Nat → Prop} {n : Int} {k : Nat} {syms : List Int} {l : List Pt} {rows0 : List (List Int)} (hZ : ∀ q, Z q → q < w9.heap.size) (hgt : gt < w9.heap.size) (h0 : w0.heap.size ≤ w9.heap.size) :
  OwnFrom w9.heap.size (TailI w0 w9 b g gt Z n k syms l rows0) := by
 intro s W W' row ⟨o, rw_, A5, c5, A6, c6, e, hok, hbd, hb, hk, hblk, h5, h6⟩ hg hr
 have hK : Kept W W' (fun q => some q = row) := ⟨hg.size, fun i hi hn => hg.block i hi hn⟩
 exact ⟨o, rw_, A5, c5, A6, c6, e, hok, hbd.kept hK (fun q hz e => absurd (hZ q hz) (Nat.not_lt.2 (hr q e.symm).1)), hb.grown hg hb.size (fun q e => Nat.le_trans h0 (hr q e).1), hk.then_ hK (fun q e => .inr (hr q e.symm).1), blk_kept hblk hK (fun e => absurd hgt (Nat.not_lt.2 (hr gt e.symm).1)), R_row h5 hg hr, R_row h6 hg hr⟩
theorem fold2 (p1 p2 : Tmp) (u v : Value) (tmps : Array Value) : (#[p1, p2].zip #[u, v]).foldl (fun t (p, v) => t.setIfInBounds p v) tmps = (tmps.setIfInBounds p1 u).setIfInBounds p2 v := by
 rw [show (#[p1, p2].zip #[u, v]) = #[(p1, u), (p2, v)] from by simp]
 rfl
theorem range2 {F : Fence} {n : Nat} {P : Program} {w : World} {α : Type} {g : Operand} {p1 p2 s : Tmp} {assign body : Code} {Q : Exit → Act → World → Prop} {tmps : Array Value}
  (hro : F.round = none) (h1 : 1 ≤ n) {gf : Nat} {lb : Array Value} (hg : ({ tmps := tmps, defers := [] } : Act).eval g = .func (.func gf) #[] lb) (hFg : F.fn gf) (eg : ∀ args w, (callFunc gf args).run P w = .ok (.enter gf args) w)
  {e1 e2 : α → Value} {Kp : World → World → Prop} {S Sp : List α → Prop} {N : Nat} (hseq : SeqStopsK F (n - 1) P gf lb (fun x => #[e1 x, e2 x]) Kp S Sp N w)
  (hKt : ∀ {A B C : World}, Kp A B → Kp B C → Kp A C) (hKb : ∀ (W : World) (l : Nat) (o o' : Obj), w.heap.size ≤ l → W.heap[l]? = some o → o.isCells = false → o.isWalk = false → Kp W (W.putObj l o'))
  (I : List α → World → Prop) (hI : OwnFrom w.heap.size I) (h0 : I [] w) (X : α → Nat → World → Prop) (hX : ∀ x, OwnFrom w.heap.size (X x))
  (hassign : ∀ (l : Nat) (pre : List α) (x : α) (W : World) (K : Act → World → Prop), I pre W → (∀ b W', KeepsFrom w.heap.size W W' → Kp W W' → I pre W' → X x b W' → K { tmps := ((tmps.setIfInBounds p1 (e1 x)).setIfInBounds p2 (e2 x)).setIfInBounds s (.pointer (some ⟨b, 0, none⟩)), defers := [] } W') →
   assign.wpIn (F.inRound l) (n - 1 - 1) P (Exit.then K (fun _ _ _ => False)) { tmps := (tmps.setIfInBounds p1 (e1 x)).setIfInBounds p2 (e2 x), defers := [] } W)
  (hbody : ∀ (l : Nat) (pre : List α) (x : α) (b : Nat) (W : World), w.heap.size ≤ l → I pre W → X x b W → pre.length < N → body.wpIn (F.inRound l) (n - 1 - 1) P (ownPostG w.heap.size Kp I (fun _ _ _ => False) (pre ++ [x]) W) { tmps := ((tmps.setIfInBounds p1 (e1 x)).setIfInBounds p2 (e2 x)).setIfInBounds s (.pointer (some ⟨b, 0, none⟩)), defers := [] } W)
  (hdone : ∀ (D : Nat) (xs : List α) (W : World), w.heap.size ≤ D → S xs → I xs W → W.heap[D]? = some (.deferred (some [])) → Q .normal { tmps := tmps, defers := [{ target := .collected D, args := #[] }] } W) :
  (Code.rangeFunc g #[p1, p2] assign body).wpIn F n P Q { tmps := tmps, defers := [] } w :=
 wpIn_rangeFunc_ownH hro h1 hg hFg eg hseq hKt hKb (Below.refl _ _) (fun _ => rfl) I (fun _ _ _ => False) hI (fun _ _ _ _ _ h _ _ => h) h0
  (fun x a' W => ∃ b, X x b W ∧ a' = { tmps := ((tmps.setIfInBounds p1 (e1 x)).setIfInBounds p2 (e2 x)).setIfInBounds s (.pointer (some ⟨b, 0, none⟩)), defers := [] })
  (fun x a' _ A B row ⟨b, hb, he⟩ hg hr => ⟨b, hX x b A B row hb hg hr, he⟩)
  (fun l pre x W K hi hK => by rw [fold2]; exact hassign l pre x W K hi (fun b W' k1 k2 k3 k4 => hK _ _ k1 k2 k3 ⟨b, k4, rfl⟩))
  (fun l pre x a' W hl _ hi ⟨b, hb, he⟩ hlt => by subst he; exact hbody l pre x b W hl hi hb hlt)
  (fun D xs W hD hs hi hk => hdone D xs W hD hs hi hk)
  (fun D c pre W _ _ h _ => h.elim)
theorem X_own {B : Nat} {α : Type} (f : α → Array Value) (t : TypeId) (x : α) : OwnFrom B (fun (b : Nat) W => B ≤ b ∧ W.heap[b]? = some (.cells (f x) t (0, 0))) := by
 intro b W W' row ⟨h0, h⟩ hg hr
 refine ⟨h0, (hg.block b (Array.getElem?_eq_some_iff.1 h).1 (fun e => ?_)).trans h⟩
 obtain ⟨_, o, ho, hn⟩ := hr b e.symm
 rw [h] at ho
 cases ho
 cases hn
theorem allOk_of {n : Int} {l : List Pt} {rows : List (List Int)} (h : allOkB n l rows = true) : RowsOk n rows ∧ ∀ x ∈ l, PtOk n rows.length x := by
 unfold allOkB at h
 rw [Bool.and_eq_true, List.all_eq_true, List.all_eq_true] at h
 refine ⟨fun i => ?_, fun x hx => ?_⟩
 ·by_cases hi : i < rows.length
  ·rw [List.getD_eq_getElem?_getD, List.getElem?_eq_getElem hi]
   exact setOk_of (h.2 _ (List.getElem_mem hi))
  ·rw [List.getD_eq_getElem?_getD, List.getElem?_eq_none (by omega)]
   exact fresh_ok n _
 ·have := h.1 x hx
  rw [Bool.and_eq_true] at this
  exact ⟨setOk_of this.1, setOk_of this.2⟩
end Go.Proofs.YthocjdlcopmhiaaDoor.G
namespace Go.Proofs.YthocjdlcopmhiaaDoor.G
open Go.RowKit Go.Proofs.YthocjdlcopmhiaaDoorW.PrintWords Go.Proofs.YthocjdlcopmhiaaDoorW.PrintLast Go.Proofs.YthocjdlcopmhiaaDoorW.PrintMore
attribute [local go_sem] max2_int min2_int max_two min_two max_three min_three max_four min_four
set_option linter.unusedVariables false
set_option linter.unusedSimpArgs false
attribute [local go_sem] Oper.semAt_some
set_option maxRecDepth 100000 in
theorem slice_to (gl len vc : Nat) (x : Int) (h0 : 0 ≤ x) (h1 : x ≤ (vc : Int)) (wx : World) : (Instr.sliceAt 89 (.slice (some ⟨gl, 0, none⟩) len vc) none (some (.int .i64 x)) none).run Tryd.prog wx = .ok (.slice (some ⟨gl, 0, none⟩) x.toNat vc) wx := by
 have hu := Tryd.underlying89
 have hu54 := Tryd.underlying54
 rw [run_sliceAt_slice (h := hu), run_slice_h (ht := hu) (h0 := h0) (h2 := h1)]
 simp [go_sem]
theorem some_if {α : Type} {c : Prop} [Decidable c] {x : Option α} {r : α} (h : (if c then x else none) = some r) : c ∧ x = some r := by
 by_cases hc : c
 ·rw [if_pos hc] at h; exact ⟨hc, h⟩
 ·rw [if_neg hc] at h; cases h
set_option maxRecDepth 100000 in
theorem slice_from (gl len vc : Nat) (x : Int) (h0 : 0 ≤ x) (h1 : x ≤ (len : Int)) (h2 : len ≤ vc) : ∃ so m cp, (∀ wx : World, (Instr.sliceAt 89 (.slice (some ⟨gl, 0, none⟩) len vc) (some (.int .i64 x)) none none).run Tryd.prog wx = .ok (.slice (some ⟨gl, so, none⟩) m cp) wx) ∧ m = len - x.toNat ∧ (x.toNat < len → so = x.toNat * 3) := by
 have hu := Tryd.underlying89
 have hu54 := Tryd.underlying54
 by_cases hv : vc = x.toNat
 ·refine ⟨0, len - x.toNat, 0, fun wx => ?_, rfl, fun h => by omega⟩
  rw [run_sliceAt_slice (h := hu), run_slice_l (ht := hu) (h0 := h0) (h1 := h1)]
  simp [go_sem, hv]
 ·refine ⟨x.toNat * 3, len - x.toNat, vc - x.toNat, fun wx => ?_, rfl, fun _ => rfl⟩
  rw [run_sliceAt_slice (h := hu), run_slice_l (ht := hu) (h0 := h0) (h1 := h1)]
  simp [go_sem, hv]
set_option maxHeartbeats 8000000 in
set_option maxRecDepth 100000 in
theorem rep_to (k : Nat) (n : Int) (hn0 : 0 ≤ n) (hn1 : n ≤ 512) (pf : PFn) (hpf : PartOk 19 n pf) (w0 w : World) (g : Nat) (Z : Nat → Prop) (syms : List Int) (rows : List (List Int)) (f0 f1 f2 f3 : Int) (f4 : List Pr.S24) (A : Option Addr) (c : Nat) (t pp : Int) (cc : List Pt × List Int × List (List Int)) (r : PR)
  (hb : Bd w0 w g Z n syms rows) (htab : HTab w0) (hB : Below w0.heap.size w0 w) (hC : Kd.C Pr.k24 w0 A f4.length f4) (hc : f4.length ≤ c) (hp : 0 < f4.length) (ht : Pr.glush_times.f f0 f1 f2 f3 f4 = some t) (ht0 : 0 < t) (ht1 : t ≤ 4096) (hpo : Pr.glush_Positions.f k (Pr.rd_T24 f4 0).f0 (Pr.rd_T24 f4 0).f1 (Pr.rd_T24 f4 0).f2 (Pr.rd_T24 f4 0).f3 (Pr.rd_T24 f4 0).f4 1 = some pp) (hpp : pp ≠ 0) (hcc : copies pf (Pr.rd_T24 f4 0) t.toNat [] syms rows = some cc) (hf3 : f3 ≠ -1) (h20 : 0 ≤ f2) (h2t : f2 ≤ t) (hr : repTo k n f2.toNat cc.1 cc.2.1 cc.2.2 = some r) :
  Calls Tryd.prog 33 #[.pointer (some ⟨g, 0, none⟩), EV ⟨f0, f1, f2, f3, f4⟩ A c] w (PartPost w0 w g Z n r) := by
 have hu54 := Tryd.underlying54; have hu24 := Tryd.underlying24
 unfold EV
 dsimp only
 have HPO0 := Lib.hid hpo; have HCC := Lib.hid hcc; have HT1 := Lib.hid ht1; clear hpo hcc
 have bt : ((t == 0) : Bool) = false := by simp; omega
 have bpp : ((pp == 0) : Bool) = false := by simpa using hpp
 have H23 := Lib.hid (show f3 ≠ -1 ∧ 0 ≤ f2 ∧ f2 ≤ t from ⟨hf3, h20, h2t⟩); clear hf3 h20 h2t
 have HPF := Lib.hid hpf; have HT := Lib.hid htab; clear hpf htab
 have HBd := Lib.hid hb; have HB := Lib.hid hB; have HC := Lib.hid hC; have HT0 := Lib.hid ht; have Hc := Lib.hid hc; have HP0 := Lib.hid hp
 clear hb hB hC ht hc hp
 refine (callsIn_wide (n := 8)).1 ?_
 refine callsIn_of_wp_marks (F := Fence.wide) Tryd.func33 rfl trivial ?_ rfl
 refine wpIn_wide.2 ?_
 simp only [Tryd.ntmps33, List.size_toArray, List.length_cons, List.length_nil, Nat.reduceAdd, Nat.reduceSub, Array.replicate_succ, Array.replicate_zero, List.push_toArray, List.append_toArray, List.nil_append, List.cons_append]
 go_upto_region 1 with (fail)
 have HB2 := below_alloc (below_alloc (below_alloc (Below.refl w.heap.size w) (.cells #[.pointer (some ⟨g, 0, none⟩)] 47)) (.cells #[.int .i64 f0, .int .i64 f1, .int .i64 f2, .int .i64 f3, .slice A f4.length c] 24)) (.cells #[.bool false, .slice none 0 0, .slice none 0 0] 54)
 have KB : (((w.alloc (.cells #[.pointer (some ⟨g, 0, none⟩)] 47)).alloc (.cells #[.int .i64 f0, .int .i64 f1, .int .i64 f2, .int .i64 f3, .slice A f4.length c] 24)).alloc (.cells #[.bool false, .slice none 0 0, .slice none 0 0] 54)).heap[w.heap.size]? = some (.cells #[.pointer (some ⟨g, 0, none⟩)] 47 (0, 0)) := blk_alloc (blk_alloc (blk_new w _) _) _
 have KE : (((w.alloc (.cells #[.pointer (some ⟨g, 0, none⟩)] 47)).alloc (.cells #[.int .i64 f0, .int .i64 f1, .int .i64 f2, .int .i64 f3, .slice A f4.length c] 24)).alloc (.cells #[.bool false, .slice none 0 0, .slice none 0 0] 54)).heap[w.heap.size + 1]? = some (.cells #[.int .i64 f0, .int .i64 f1, .int .i64 f2, .int .i64 f3, .slice A f4.length c] 24 (0, 0)) := by
  have := blk_alloc (blk_new (w.alloc (.cells #[.pointer (some ⟨g, 0, none⟩)] 47)) (.cells #[.int .i64 f0, .int .i64 f1, .int .i64 f2, .int .i64 f3, .slice A f4.length c] 24)) (.cells #[.bool false, .slice none 0 0, .slice none 0 0] 54); simpa using this
 have KR : (((w.alloc (.cells #[.pointer (some ⟨g, 0, none⟩)] 47)).alloc (.cells #[.int .i64 f0, .int .i64 f1, .int .i64 f2, .int .i64 f3, .slice A f4.length c] 24)).alloc (.cells #[.bool false, .slice none 0 0, .slice none 0 0] 54)).heap[w.heap.size + 2]? = some (.cells #[.bool false, .slice none 0 0, .slice none 0 0] 54 (0, 0)) := by
  have := blk_new ((w.alloc (.cells #[.pointer (some ⟨g, 0, none⟩)] 47)).alloc (.cells #[.int .i64 f0, .int .i64 f1, .int .i64 f2, .int .i64 f3, .slice A f4.length c] 24)) (.cells #[.bool false, .slice none 0 0, .slice none 0 0] 54); simpa using this
 generalize ((w.alloc (.cells #[.pointer (some ⟨g, 0, none⟩)] 47)).alloc (.cells #[.int .i64 f0, .int .i64 f1, .int .i64 f2, .int .i64 f3, .slice A f4.length c] 24)).alloc (.cells #[.bool false, .slice none 0 0, .slice none 0 0] 54) = wA at HB2 KB KE KR ⊢
 have HBA := Lib.hid (below_step HB.out HB2); have HBdA := Lib.hid (HBd.out.below HB2); have HW2 := Lib.hid HB2; have HBS := Lib.hid HB.out.size; have HNZ := Lib.hid HBd.out.new
 have KBA := Lib.hid KB; have KEA := Lib.hid KE; have KRA := Lib.hid KR
 clear KB KE KR HB2 HB HBd
 obtain ⟨ad, A4, c4, eA, y0, y1, y2, y3, y4, hc4, hC4⟩ := Pr.at_T24 HC.out 0 (Int.le_refl _) (by have := HP0.out; omega)
 subst eA
 have q0 := cell_below y0 HBA.out; have q1 := cell_below y1 HBA.out; have q2 := cell_below y2 HBA.out; have q3 := cell_below y3 HBA.out; have q4 := cell_below y4 HBA.out
 clear y0 y1 y2 y3 y4
 have hpo := HPO0.out; have hcc := HCC.out; clear HPO0 HCC
 generalize Pr.rd_T24 f4 0 = y at q0 q1 q2 q3 q4 hc4 hC4 hpo hcc
 have HPO := Lib.hid hpo; have HCC := Lib.hid hcc; clear hpo hcc
 have HC4 := Lib.hid hC4; have Hc4 := Lib.hid hc4; clear hC4 hc4
 have e4 : wA.cell? ⟨w.heap.size + 1, 4, none⟩ = some (.slice (some ad) f4.length c) := (blk_cell KEA.out 4).trans rfl
 have hp1 := HP0.out
 simp only [Int.toNat_zero, Nat.zero_mul, Nat.zero_add] at q0 q1 q2 q3 q4
 have ea0 : ad.add 0 = ad := by cases ad; simp [Addr.add]
 rw [ea0] at q0 q1 q2 q3 q4
 go_upto_region 2 with (fail)
 clear q0 q1 q2 q3 q4 e4 hp1 ea0
 have hby := below_alloc (Below.refl wA.heap.size wA) (.cells #[.int .i64 y.f0, .int .i64 y.f1, .int .i64 y.f2, .int .i64 y.f3, .slice A4 y.f4.length c4] 24)
 have KY : (wA.alloc (.cells #[.int .i64 y.f0, .int .i64 y.f1, .int .i64 y.f2, .int .i64 y.f3, .slice A4 y.f4.length c4] 24)).heap[wA.heap.size]? = some (.cells #[.int .i64 y.f0, .int .i64 y.f1, .int .i64 y.f2, .int .i64 y.f3, .slice A4 y.f4.length c4] 24 (0, 0)) := blk_new wA _
 have HGK := Lib.hid (HW2.out.size); have HBW3 := Lib.hid (Nat.le_refl w.heap.size); have HGR := Lib.hid (blk_lt KRA.out)
 have KBB := Lib.hid (blk_below KBA.out hby); have KEB := Lib.hid (blk_below KEA.out hby); have KRB := Lib.hid (blk_below KRA.out hby); have HBB := Lib.hid (below_step HBA.out hby); have HBdB := Lib.hid (HBdA.out.below hby); have HWB := Lib.hid (below_step HW2.out hby)
 clear hby KBA KEA KRA HBA HBdA HW2
 generalize wA.alloc (.cells #[.int .i64 y.f0, .int .i64 y.f1, .int .i64 y.f2, .int .i64 y.f3, .slice A4 y.f4.length c4] 24) = wB at KY KBB KEB KRB HBB HBdB HWB ⊢
 generalize wA.heap.size = gkid at KY HGK HGR ⊢
 have KYB := Lib.hid KY; clear KY
 have e0 : wB.cell? ⟨w.heap.size + 1, 0, none⟩ = some (.int .i64 f0) := (blk_cell KEB.out 0).trans rfl
 have e1 : wB.cell? ⟨w.heap.size + 1, 1, none⟩ = some (.int .i64 f1) := (blk_cell KEB.out 1).trans rfl
 have e2 : wB.cell? ⟨w.heap.size + 1, 2, none⟩ = some (.int .i64 f2) := (blk_cell KEB.out 2).trans rfl
 have e3 : wB.cell? ⟨w.heap.size + 1, 3, none⟩ = some (.int .i64 f3) := (blk_cell KEB.out 3).trans rfl
 have e4 : wB.cell? ⟨w.heap.size + 1, 4, none⟩ = some (.slice (some ad) f4.length c) := (blk_cell KEB.out 4).trans rfl
 go_wp2_with (fail)
 clear e0 e1 e2 e3 e4
 refine (Pr.glush_times.calls f0 f1 f2 f3 (some ad) c f4 t wB (Kd.C_below HC.out HBB.out) Hc.out HT0.out).mono ?_
 rintro e w2 ⟨rfl, hb2⟩
 have KB2 := Lib.hid (blk_below KBB.out hb2); have KE2 := Lib.hid (blk_below KEB.out hb2); have KR2 := Lib.hid (blk_below KRB.out hb2); have KY2 := Lib.hid (blk_below KYB.out hb2); have HB2 := Lib.hid (below_step HBB.out hb2); have HBd2 := Lib.hid (HBdB.out.below hb2); have HW2 := Lib.hid (below_step HWB.out hb2)
 clear hb2 KBB KEB KRB KYB HBB HBdB HWB
 have bp2 : w2.cell? ⟨w.heap.size, 0, none⟩ = some (.pointer (some ⟨g, 0, none⟩)) := (blk_cell KB2.out 0).trans rfl
 have y0 : w2.cell? ⟨gkid, 0, none⟩ = some (.int .i64 y.f0) := (blk_cell KY2.out 0).trans rfl
 have y1 : w2.cell? ⟨gkid, 1, none⟩ = some (.int .i64 y.f1) := (blk_cell KY2.out 1).trans rfl
 have y2 : w2.cell? ⟨gkid, 2, none⟩ = some (.int .i64 y.f2) := (blk_cell KY2.out 2).trans rfl
 have y3 : w2.cell? ⟨gkid, 3, none⟩ = some (.int .i64 y.f3) := (blk_cell KY2.out 3).trans rfl
 have y4 : w2.cell? ⟨gkid, 4, none⟩ = some (.slice A4 y.f4.length c4) := (blk_cell KY2.out 4).trans rfl
 go_wp2_with (fail)
 clear y0 y1 y2 y3 y4 bp2
 refine (Pr.glush_Positions.calls k y.f0 y.f1 y.f2 y.f3 A4 c4 y.f4 1 pp w2 (Kd.C_below HC4.out HB2.out) Hc4.out HPO.out).mono ?_
 rintro e w3 ⟨rfl, hb2⟩
 have KB3 := Lib.hid (blk_below KB2.out hb2); have KE3 := Lib.hid (blk_below KE2.out hb2); have KR3 := Lib.hid (blk_below KR2.out hb2); have KY3 := Lib.hid (blk_below KY2.out hb2); have HB3 := Lib.hid (below_step HB2.out hb2); have HBd3 := Lib.hid (HBd2.out.below hb2); have HW3 := Lib.hid (below_step HW2.out hb2)
 clear hb2 KB2 KE2 KR2 KY2 HB2 HBd2 HW2
 have bp3 : w3.cell? ⟨w.heap.size, 0, none⟩ = some (.pointer (some ⟨g, 0, none⟩)) := (blk_cell KB3.out 0).trans rfl
 have y0 : w3.cell? ⟨gkid, 0, none⟩ = some (.int .i64 y.f0) := (blk_cell KY3.out 0).trans rfl
 have y1 : w3.cell? ⟨gkid, 1, none⟩ = some (.int .i64 y.f1) := (blk_cell KY3.out 1).trans rfl
 have y2 : w3.cell? ⟨gkid, 2, none⟩ = some (.int .i64 y.f2) := (blk_cell KY3.out 2).trans rfl
 have y3 : w3.cell? ⟨gkid, 3, none⟩ = some (.int .i64 y.f3) := (blk_cell KY3.out 3).trans rfl
 have y4 : w3.cell? ⟨gkid, 4, none⟩ = some (.slice A4 y.f4.length c4) := (blk_cell KY3.out 4).trans rfl
 go_wp2_with (fail)
 clear y0 y1 y2 y3 y4 bp3 bt bpp
 have HN3 := Lib.hid HBd3.out.new; have HK3 := Lib.hid (Kept.of_below HW3.out Z)
 have HLB := Lib.hid (blk_lt KB3.out); have HLE := Lib.hid (blk_lt KE3.out); have HLR := Lib.hid (blk_lt KR3.out); have HLY := Lib.hid (blk_lt KY3.out)
 go_loopg [8, 47] t.toNat (fun kq v8 v47 w' => ∃ (x : Int) (Z' : Nat → Prop) (l : List Pt) (sy : List Int) (rw_ : List (List Int)) (vA : Option Addr) (vc : Nat), v47 = .int .i64 x ∧ v8 = .slice vA l.length vc ∧ Hid (0 ≤ x ∧ x ≤ t) ∧ Hid (kq = (t - x).toNat) ∧ Hid (copies pf y (t - x).toNat l sy rw_ = some cc) ∧ Hid ((l.length : Int) = x) ∧ Hid (Bd w0 w' g Z' n sy rw_) ∧ Hid (∀ k, Z' k → Z k ∨ w3.heap.size ≤ k) ∧ Hid (Below w0.heap.size w0 w') ∧ Hid (Kept w w' Z) ∧ Hid (Kept w3 w' Z) ∧
  Hid (Kd.N kP 54 w' w0.heap.size (fun k => ¬ Z' k ∧ w3.heap.size ≤ k) (.slice vA l.length vc) l))
 case atStart => exact ⟨0, Z, [], syms, rows, none, 0, rfl, rfl, Lib.hid ⟨Int.le_refl _, by have := ht0; omega⟩, Lib.hid (by simp), Lib.hid (by simpa using HCC.out), Lib.hid rfl, HBd3, Lib.hid (fun _ h => .inl h), HB3, HK3, Lib.hid (Kept.refl _ _), Lib.hid (Kd.N_nil _ _ _ _ _)⟩
 case round =>
  obtain ⟨x, Z', l, sy, rw_, vA, vc, rfl, rfl, HX, HQ, HM, HLN, HBdj, HZj, HBj, HKj, HK3j, HNj⟩ := hrel
  by_cases hlt : x < t
  ·have hm := HM.out
   rw [show (t - x).toNat = (t - (x + 1)).toNat + 1 by omega] at hm
   unfold copies at hm
   obtain ⟨p, hp, hm⟩ := Option.bind_eq_some_iff.1 hm
   have HP := Lib.hid hp; have HRE := Lib.hid hm; have HLT := Lib.hid hlt
   have b1 : decide (x < t) = true := decide_eq_true hlt
   clear hp hm hlt HM
   have HNK := Lib.hid (fun b (h1 : w.heap.size ≤ b) => (HNZ.out b h1 : ¬ Z b))
   have KBj := Lib.hid (blk_kept KB3.out HK3j.out (HNK.out _ (Nat.le_refl _))); have KYj := Lib.hid (blk_kept KY3.out HK3j.out (HNK.out _ (Nat.le_trans HBW3.out HGK.out)))
   have bpj : wr.cell? ⟨w.heap.size, 0, none⟩ = some (.pointer (some ⟨g, 0, none⟩)) := (blk_cell KBj.out 0).trans rfl
   have y0 : wr.cell? ⟨gkid, 0, none⟩ = some (.int .i64 y.f0) := (blk_cell KYj.out 0).trans rfl
   have y1 : wr.cell? ⟨gkid, 1, none⟩ = some (.int .i64 y.f1) := (blk_cell KYj.out 1).trans rfl
   have y2 : wr.cell? ⟨gkid, 2, none⟩ = some (.int .i64 y.f2) := (blk_cell KYj.out 2).trans rfl
   have y3 : wr.cell? ⟨gkid, 3, none⟩ = some (.int .i64 y.f3) := (blk_cell KYj.out 3).trans rfl
   have y4 : wr.cell? ⟨gkid, 4, none⟩ = some (.slice A4 y.f4.length c4) := (blk_cell KYj.out 4).trans rfl
   go_wp2_with (fail)
   clear y0 y1 y2 y3 y4 bpj b1 KBj KYj
   (with_reducible refine (HPF.out.call w0 wr g Z' sy rw_ y A4 c4 p HBdj.out HT.out HBj.out HC4.out Hc4.out HP.out).mono ?_); rintro e w4 ⟨Z4, A7, c7, A8, c8, rfl, h7, h8, hbd, hzi, hbb, hkk⟩
   have HWR := Lib.hid (Nat.le_trans HK3j.out.1 (Nat.le_refl _))
   have HZ4 := Lib.hid (fun (q : Nat) (h1 : ¬ Z' q) (h2 : q < wr.heap.size) (h3 : Z4 q) => ((hzi q h3).elim h1 (fun h4 => Nat.lt_irrefl _ (Nat.lt_of_lt_of_le h2 h4)) : False))
   have HZI4 : Hid (∀ q, Z4 q → Z q ∨ w3.heap.size ≤ q) := Lib.hid (fun q h => (hzi q h).elim (HZj.out q) (fun h4 => .inr (Nat.le_trans HWR.out h4)))
   have HN4 := Lib.hid (Kd.N_mono (Kd.N_kept (Kd.N_bound HNj.out) hkk (fun q h1 h2 => h1.1.1 h2)) (ok' := fun q => ¬ Z4 q ∧ w3.heap.size ≤ q) (fun q h => ⟨HZ4.out q h.1.1 h.2, h.1.2⟩))
   have HNL := Lib.hid (fun q (h : some q = (Value.slice vA l.length vc).ownBlock) => (Kd.N_lt HNj.out q h.symm : q < wr.heap.size))
   have HBd4 := Lib.hid hbd; have HB4 := Lib.hid hbb; have HK4 := Lib.hid (HKj.out.then_ hkk (fun q h => (HZj.out q h).elim .inl (fun h4 => .inr (Nat.le_trans HW3.out.size h4)))); have HK34 := Lib.hid (HK3j.out.then_ hkk HZj.out)
   have HFK : Hid (Kd.FK kP w4 (fun q => ¬ Z4 q ∧ wr.heap.size ≤ q) (p.null, p.fst, p.lst) [.bool p.null, .slice A7 p.fst.length c7, .slice A8 p.lst.length c8]) := Lib.hid (kP_mkF (x := (p.null, p.fst, p.lst)) (b5 := 0) (b6 := 0) (V_of_R (Kd.R_mono (Kd.R_bound h7) (fun q h => ⟨h.1, h.2.1⟩))) (V_of_R (Kd.R_mono (Kd.R_bound h8) (fun q h => ⟨h.1, h.2.1⟩))))
   have HSZ4 := Lib.hid hkk.1
   clear hbd hzi hbb hkk h7 h8
   go_wp2_with ((with_reducible refine gate_dst (N := 54) rfl ?_); refine Kd.N_append kP (w0 := w0) (W := w4) w0.heap.size rfl (.tmp 49) (.tmp 53) 89 54 (.agg #[.bool false, .slice none 0 0, .slice none 0 0]) 56 rfl Tryd.underlying89 (by kernel_rfl) rfl (by decide) (by omega) (.slice vA l.length vc) l (p.null, p.fst, p.lst) [.bool p.null, .slice A7 p.fst.length c7, .slice A8 p.lst.length c8] (fun q => ¬ Z4 q ∧ w3.heap.size ≤ q) (fun q => ¬ Z4 q ∧ wr.heap.size ≤ q) rfl rfl HFK.out ?hokp ?hfr HN4.out HB4.out HB4.out.size ?hl ?_; (case hokp => exact fun q hq => ⟨⟨hq.1, Nat.le_trans HWR.out hq.2⟩, fun he => Nat.lt_irrefl _ (Nat.lt_of_lt_of_le (HNL.out q he) hq.2)⟩); (case hfr => exact fun q hq => ⟨HBd4.out.new q hq, Nat.le_trans HWR.out (Nat.le_trans HSZ4.out hq)⟩); (case hl => have h1 := HLN.out; have h2 := HLT.out; have h3 := HT1.out; omega); intro v9 w5 hn9 hb9 hg9 hat9; have HN9 := Lib.hid hn9; have HB9 := Lib.hid hb9; have HG9 := Lib.hid hg9; clear hn9 hb9 hg9 hat9)
   obtain ⟨vB, vd, rfl⟩ := Kd.V_slice (Kd.N_V (base' := 0) HN9.out)
   have hk9 : Kept w4 w5 (fun q => some q = (Value.slice vA l.length vc).ownBlock) := ⟨HG9.out.size, fun i hi hn => HG9.out.block i hi hn⟩
   have HBd5 := Lib.hid (HBd4.out.kept hk9 (fun q h1 h2 => (HN4.out.1 q h2.symm).1 h1)); have HK5 := Lib.hid (HK4.out.then_ hk9 (fun q h => .inr (Nat.le_trans HW3.out.size (HN4.out.1 q h.symm).2))); have HK35 := Lib.hid (HK34.out.then_ hk9 (fun q h => .inr (HN4.out.1 q h.symm).2))
   have hw : wrap64 (x + 1) = x + 1 := by have h1 := HLT.out; have h2 := HT1.out; have h3 := HX.out.1; unfold wrap64; omega
   go_roundg (t - (x + 1)).toNat
   case measure => have h1 := HLT.out; have h2 := HQ.out; have h3 := HX.out.1; omega
   case rel => exact ⟨x + 1, Z4, l ++ [(p.null, p.fst, p.lst)], p.syms, p.rows, vB, vd, by rw [hw], rfl, Lib.hid ⟨by have := HX.out.1; omega, by have := HLT.out; omega⟩, Lib.hid rfl, HRE, Lib.hid (by have := HLN.out; rw [List.length_append, List.length_singleton]; omega), HBd5, HZI4, HB9, HK5, HK35, HN9⟩
  ·have hx : x = t := by have := HX.out.2; omega
   subst hx
   have hm := HM.out
   rw [Int.sub_self] at hm
   unfold copies at hm
   obtain rfl := Option.some.inj hm
   clear hm HM HCC
   dsimp only at hr
   have b1 : decide (x < x) = false := decide_eq_false hlt
   have hl0 : 0 < l.length := by have := HLN.out; omega
   obtain ⟨gl, hgl⟩ : ∃ gl, vA = some ⟨gl, 0, none⟩ := by
    obtain ⟨_, rws, hrl, hR, _⟩ := HNj.out
    obtain ⟨g', c', e', _⟩ := Kd.R_form hR (by omega)
    injection e' with e1 _ _
    exact ⟨g', e1⟩
   subst hgl
   have HNZ2 := Lib.hid (fun b (h1 : w.heap.size ≤ b) (h2 : b < w3.heap.size) (hz : Z' b) => ((HZj.out b hz).elim (HNZ.out b h1) (fun h4 => Nat.lt_irrefl _ (Nat.lt_of_lt_of_le h2 h4)) : False))
   have KBj := Lib.hid (blk_kept KB3.out HK3j.out (HNZ.out _ (Nat.le_refl _))); have KEj := Lib.hid (blk_kept KE3.out HK3j.out (HNZ.out _ (Nat.le_add_right _ 1))); have KRj := Lib.hid (blk_kept KR3.out HK3j.out (HNZ.out _ (Nat.le_add_right _ 2)))
   clear HQ HP0 HT0 HPO HPF HC4 Hc4 HC Hc KB3 KE3 KR3 KY3 HBd3 HB3 HK3 HN3
   have bpj : wr.cell? ⟨w.heap.size, 0, none⟩ = some (.pointer (some ⟨g, 0, none⟩)) := (blk_cell KBj.out 0).trans rfl
   have e2 : wr.cell? ⟨w.heap.size + 1, 2, none⟩ = some (.int .i64 f2) := (blk_cell KEj.out 2).trans rfl
   have e3 : wr.cell? ⟨w.heap.size + 1, 3, none⟩ = some (.int .i64 f3) := (blk_cell KEj.out 3).trans rfl
   obtain ⟨h31, h20, h2t⟩ := H23.out
   have bf3 : ((f3 == -1) : Bool) = false := by simpa using h31
   go_wp2_with (fail)
   clear bf3 bpj e2 e3
   have HZW : Hid (∀ q, Z' q → Z q ∨ w.heap.size ≤ q) := Lib.hid (fun q h => (HZj.out q h).elim .inl (fun h4 => .inr (Nat.le_trans HW3.out.size h4)))
   have HNB : Hid (¬ Z' w.heap.size) := Lib.hid (HNZ2.out _ (Nat.le_refl _) HLB.out); have HNE : Hid (¬ Z' (w.heap.size + 1)) := Lib.hid (HNZ2.out _ (Nat.le_add_right _ 1) HLE.out); have HNR : Hid (¬ Z' (w.heap.size + 2)) := Lib.hid (HNZ2.out _ (Nat.le_add_right _ 2) HLR.out)
   refine (none_calls g n true wr (by obtain ⟨⟨v1, v2, hbk, _⟩, _⟩ := HBdj.out; exact (blk_cell hbk 0).trans rfl) hn0 hn1).mono ?_
   rintro e w4 ⟨v5, v6, rfl, h5, h6, hb1⟩
   obtain ⟨T5, t5, rfl⟩ := Kd.R_slice h5
   obtain ⟨T6, t6, rfl⟩ := Kd.R_slice h6
   have hbo := below_alloc hb1 (.cells #[.bool true, .slice T5 (freshF n).length t5, .slice T6 (freshF n).length t6] 54)
   have hb2 := below_alloc (Below.refl w4.heap.size w4) (.cells #[.bool true, .slice T5 (freshF n).length t5, .slice T6 (freshF n).length t6] 54)
   have KT_ : (w4.alloc (.cells #[.bool true, .slice T5 (freshF n).length t5, .slice T6 (freshF n).length t6] 54)).heap[w4.heap.size]? = some (.cells #[.bool true, .slice T5 (freshF n).length t5, .slice T6 (freshF n).length t6] 54 (0, 0)) := blk_new w4 _
   have HBd4 := Lib.hid (HBdj.out.below hbo); have HB4 := Lib.hid (below_step HBj.out hbo); have HK4 := Lib.hid (HKj.out.below hbo); have KB4 := Lib.hid (blk_below KBj.out hbo); have KR4 := Lib.hid (blk_below KRj.out hbo); have KE4 := Lib.hid (blk_below KEj.out hbo); have HN4 := Lib.hid (Kd.N_below (Kd.N_bound HNj.out) hbo)
   have HT5 := Lib.hid (Kd.R_mono (Kd.R_lower (Kd.R_bound (Kd.R_below h5 hb2)) HKj.out.1) (ok' := fun q => ¬ Z' q) (fun q h => HBdj.out.new q h.2.1)); have HT6 := Lib.hid (Kd.R_mono (Kd.R_lower (Kd.R_bound (Kd.R_below h6 hb2)) HKj.out.1) (ok' := fun q => ¬ Z' q) (fun q h => HBdj.out.new q h.2.1))
   have HZR : Hid (∀ q, Z' q → q < wr.heap.size) := Lib.hid (fun q hz => Nat.lt_of_not_le (fun hl => HBdj.out.new q hl hz))
   have HSR3 := Lib.hid HK3j.out.1; have HSW4 := Lib.hid hb1.size; have HSR := Lib.hid HKj.out.1; have HS0 := Lib.hid HBj.out.size
   clear h5 h6 hb1 hbo hb2 HBdj HBj HKj KBj KRj KEj HK3j
   go_upto_region 27 with (fail)
   have HW39 := Lib.hid (show w3.heap.size ≤ wr.heap.size from HSR3.out)
   generalize w4.alloc (.cells #[.bool true, .slice T5 (freshF n).length t5, .slice T6 (freshF n).length t6] 54) = w5 at KT_ HBd4 HB4 HK4 KB4 KR4 KE4 HN4 HT5 HT6 ⊢
   generalize w4.heap.size = gt at KT_ HSW4 ⊢
   have KT5 := Lib.hid KT_; clear KT_
   have e2 : w5.cell? ⟨w.heap.size + 1, 2, none⟩ = some (.int .i64 f2) := (blk_cell KE4.out 2).trans rfl
   have HF2 := Lib.hid (show 0 ≤ f2 ∧ f2 ≤ (l.length : Int) ∧ l.length ≤ vc from ⟨h20, by have := HLN.out; omega, (Kd.V_at (Kd.N_V (base' := 0) HNj.out)).2.1⟩)
   have i0 : (0 ≤ f2) = True := eq_true HF2.out.1
   have i1 : (f2 ≤ (l.length : Int)) = True := eq_true HF2.out.2.1
   have i2 : (l.length ≤ vc) = True := eq_true HF2.out.2.2
   clear h31 h20 h2t hlt
   obtain ⟨so, m9, cp, hsl, hm9, hso⟩ := slice_from gl l.length vc f2 HF2.out.1 HF2.out.2.1 HF2.out.2.2
   unfold repTo at hr
   obtain ⟨hk4, hr⟩ := some_if hr
   obtain ⟨hall, hr⟩ := some_if hr
   obtain ⟨tt, htt, hr⟩ := Option.bind_eq_some_iff.1 hr
   obtain ⟨oo, hoo, hr⟩ := Option.bind_eq_some_iff.1 hr
   obtain ⟨zz, hzz, hr⟩ := Option.bind_eq_some_iff.1 hr
   obtain rfl := Option.some.inj hr
   clear hr
   obtain ⟨hrok, hlok⟩ := allOk_of hall
   have hm9' : m9 = (l.drop f2.toNat).length := by rw [hm9, List.length_drop]
   have HLD : Hid (∀ j : Nat, (l.drop f2.toNat).getD j (false, [], []) = l.getD (f2.toNat + j) (false, [], [])) := Lib.hid (fun j => by rw [List.getD_eq_getElem?_getD, List.getD_eq_getElem?_getD, List.getElem?_drop])
   have HLOK : Hid (∀ j : Nat, j < (l.drop f2.toNat).length → PtOk n rw_.length ((l.drop f2.toNat).getD j (false, [], []))) := Lib.hid (fun j hj => by
    rw [List.getD_eq_getElem?_getD, List.getElem?_eq_getElem hj]
    exact hlok _ (List.mem_of_mem_drop (List.getElem_mem hj)))
   have HM9 : Hid (m9 = l.length - f2.toNat) := Lib.hid hm9
   generalize l.drop f2.toNat = l9 at hm9' htt HLD HLOK
   subst hm9'
   have HSO := Lib.hid hso; have HKF := Lib.hid hk4; have HROK := Lib.hid hrok; have HTT := Lib.hid htt; have HOO := Lib.hid hoo; have HZZ := Lib.hid hzz
   clear hso hm9 hk4 hall hrok hlok htt hoo hzz
   go_wp2_with (fail)
   clear hsl i0 i1 i2 e2
   refine (callsIn_wide.1 (back_in Fence.wide 0 trivial rfl (some ⟨gl, so, none⟩) l9.length cp w5)).mono ?_
   rintro e w6 ⟨rfl, rfl⟩
   have hby := below_alloc (Below.refl w5.heap.size w5) (.cells #[.slice (some ⟨gl, so, none⟩) l9.length cp] 89)
   have KX_ : (w5.alloc (.cells #[.slice (some ⟨gl, so, none⟩) l9.length cp] 89)).heap[w5.heap.size]? = some (.cells #[.slice (some ⟨gl, so, none⟩) l9.length cp] 89 (0, 0)) := blk_new w5 _
   have HBd9 := Lib.hid (HBd4.out.below hby); have HB9 := Lib.hid (below_step HB4.out hby); have HK9 := Lib.hid (HK4.out.below hby); have KB9 := Lib.hid (blk_below KB4.out hby); have KR9 := Lib.hid (blk_below KR4.out hby); have KE9 := Lib.hid (blk_below KE4.out hby); have HN9 := Lib.hid (Kd.N_below (Kd.N_bound HN4.out) hby); have HT59 := Lib.hid (Kd.R_below HT5.out hby); have HT69 := Lib.hid (Kd.R_below HT6.out hby); have KT9 := Lib.hid (blk_below KT5.out hby)
   have HS9 := Lib.hid (show w5.heap.size < (w5.alloc (.cells #[.slice (some ⟨gl, so, none⟩) l9.length cp] 89)).heap.size by simp)
   have HTB := Lib.hid (blk_lt KT5.out); have HR5 := Lib.hid (blk_lt KR4.out)
   clear hby HBd4 HB4 HK4 KB4 KR4 KE4 HN4 HT5 HT6 KT5
   generalize w5.alloc (.cells #[.slice (some ⟨gl, so, none⟩) l9.length cp] 89) = w9 at KX_ HBd9 HB9 HK9 KB9 KR9 KE9 HN9 HT59 HT69 KT9 HS9 ⊢
   have KX := Lib.hid KX_; clear KX_
   go_wp2_with (fail)
   have hch : ∀ j : Nat, ∃ z : Value × Value × Value, j < l9.length → ∃ A5 c5 A6 c6, z = (.bool (l9.getD j (false, [], [])).1, .slice A5 (l9.getD j (false, [], [])).2.1.length c5, .slice A6 (l9.getD j (false, [], [])).2.2.length c6) ∧ w9.cell? ⟨gl, so + j * 3, none⟩ = some z.1 ∧ w9.cell? ⟨gl, so + j * 3 + 1, none⟩ = some z.2.1 ∧ w9.cell? ⟨gl, so + j * 3 + 2, none⟩ = some z.2.2 ∧
     Kd.V KU 77 w9 0 (fun q => ¬ Z' q ∧ q < gt) (.slice A5 (l9.getD j (false, [], [])).2.1.length c5) (l9.getD j (false, [], [])).2.1 ∧ Kd.V KU 77 w9 0 (fun q => ¬ Z' q ∧ q < gt) (.slice A6 (l9.getD j (false, [], [])).2.2.length c6) (l9.getD j (false, [], [])).2.2 := by
    intro j
    by_cases hj : j < l9.length
    ·have hm := HM9.out
     have h0 := HF2.out.1
     have hso := HSO.out (by omega)
     obtain ⟨adl, L5, d5, L6, d6, eL, p0, p1, p2, hv5, hv6, _⟩ := parts_at (Kd.V_at (Kd.N_V (base' := 0) HN9.out)).2.2 (false, [], []) ((f2.toNat + j : Nat) : Int) (Int.natCast_nonneg _) (by omega)
     cases eL
     simp only [add_plain, Int.toNat_natCast] at p0 p1 p2 hv5 hv6
     rw [← HLD.out j] at p0 p1 p2 hv5 hv6
     have e3 : (f2.toNat + j) * 3 = so + j * 3 := by rw [hso]; omega
     rw [e3] at p0 p1 p2
     exact ⟨(_, _, _), fun _ => ⟨L5, d5, L6, d6, rfl, p0, p1, p2, Kd.V_mono hv5 (fun q h => ⟨h.1.1.1, Nat.lt_of_lt_of_le h.1.2 HSW4.out⟩), Kd.V_mono hv6 (fun q h => ⟨h.1.1.1, Nat.lt_of_lt_of_le h.1.2 HSW4.out⟩)⟩⟩
    ·exact ⟨(undef, undef, undef), fun h => absurd h hj⟩
   obtain ⟨zs, hzs⟩ := Classical.axiomOfChoice hch
   clear hch
   have HZS := Lib.hid hzs; clear hzs
   have HLR9 := Lib.hid (blk_lt KR9.out); have HB90 := Lib.hid HB9.out.size
   have HGL : Hid (¬ Z' gl ∧ gl < wr.heap.size) := Lib.hid ⟨(HNj.out.1 gl rfl).1, Kd.N_lt HNj.out gl rfl⟩
   have HZ9 : Hid (∀ q, Z' q → q < w9.heap.size) := Lib.hid (fun q hz => Nat.lt_trans (Nat.lt_of_lt_of_le (HZR.out q hz) HSW4.out) (Nat.lt_trans HTB.out HS9.out))
   have HGT9 : Hid (gt < w9.heap.size) := Lib.hid (Nat.lt_trans HTB.out HS9.out)
   have HNGT : Hid (¬ Z' gt) := Lib.hid (fun hz => Nat.lt_irrefl _ (Nat.lt_of_lt_of_le (HZR.out gt hz) HSW4.out))
   have HGTW : Hid (w.heap.size ≤ gt) := Lib.hid (Nat.le_trans HSR.out HSW4.out)
   have hG : ∀ {A B C : World}, Kept A B (fun q => (Z' q ∨ q = gt) ∨ w9.heap.size ≤ q) → Kept B C (fun q => (Z' q ∨ q = gt) ∨ w9.heap.size ≤ q) → Kept A C (fun q => (Z' q ∨ q = gt) ∨ w9.heap.size ≤ q) := fun h1 h2 => h1.then_ h2 (fun _ h => .inl h)
   refine wpIn_wide.1 (range2 (F := Fence.wide) (n := 8) rfl (by decide) (gf := 53) (lb := #[.pointer (some ⟨w5.heap.size, 0, none⟩)]) rfl trivial (enters_of Tryd.func53 (by kernel_rfl) rfl)
    (back_stops Fence.wide 7 trivial rfl (by decide) w5.heap.size (some ⟨gl, so, none⟩) l9.length cp zs ?hone ?hlen (fun q => (Z' q ∨ q = gt) ∨ w9.heap.size ≤ q) ?hS w9 HS9.out ((blk_cell KX.out 0).trans rfl) ?hc) hG (fun W l o o' hl _ _ _ => kept_putObj l o' (.inr hl))
    (TailI w0 w9 w.heap.size g gt Z' n k sy l9 rw_) (TailI.own HZ9.out HGT9.out HB9.out.size) ?h0 (fun x b W => w9.heap.size ≤ b ∧ W.heap[b]? = some (.cells #[(zs x.1).1, (zs x.1).2.1, (zs x.1).2.2] 54 (0, 0))) (fun x => X_own (fun x => #[(zs x.1).1, (zs x.1).2.1, (zs x.1).2.2]) 54 x) (s := 15) ?assign ?body ?done)
   case hone => intro j hj; obtain ⟨A5, c5, A6, c6, e, _⟩ := HZS.out j hj; rw [e]; exact ⟨rfl, rfl, rfl⟩
   case hlen => have h1 := HM9.out; have h2 := HLN.out; have h3 := HT1.out; omega
   case hS => exact fun h => h.elim (fun h => h.elim (fun hz => Nat.lt_irrefl _ (Nat.lt_trans (Nat.lt_of_lt_of_le (HZR.out _ hz) HSW4.out) HTB.out)) (fun e => Nat.lt_irrefl _ (e ▸ HTB.out))) (fun h => Nat.lt_irrefl _ (Nat.lt_of_lt_of_le HS9.out h))
   case hc =>
    intro j j0 j1
    obtain ⟨A5, c5, A6, c6, e, c0, c1, c2, _⟩ := HZS.out j.toNat (by omega)
    exact ⟨gl, so, rfl, c0, c1, c2, fun h => h.elim (fun h => h.elim HGL.out.1 (fun e => Nat.lt_irrefl _ (Nat.lt_of_lt_of_le HGL.out.2 (e ▸ HSW4.out)))) (fun h => Nat.lt_irrefl _ (Nat.lt_of_lt_of_le (Nat.lt_trans HGL.out.2 (Nat.lt_of_le_of_lt HSW4.out HGT9.out)) h))⟩
   case h0 => exact ⟨fresh0 n true, rw_, T5, t5, T6, t6, rfl, ⟨HROK.out, rfl, fresh_ok n _, fresh_ok n _⟩, HBd9.out, HB9.out, Kept.refl _ _, KT9.out, HT59.out, HT69.out⟩
   case assign =>
    rintro lr pre x W Kq hI hK
    obtain ⟨E5, e5_, E6, e6_, hz, _⟩ := HZS.out x.1 x.2
    simp only [List.setIfInBounds_toArray, List.set_cons_succ, List.set_cons_zero, List.append_eq, List.cons_append, List.nil_append] at hK ⊢
    rw [hz] at hK ⊢
    dsimp only at hK ⊢
    generalize l9.getD x.1 (false, [], []) = q at hK ⊢
    clear hz
    gi_wp2
    have hby := below_alloc (Below.refl W.heap.size W) (.cells #[.bool q.1, .slice E5 q.2.1.length e5_, .slice E6 q.2.2.length e6_] 54)
    obtain ⟨o, rwi, C5, h5_, C6, h6_, htl, hto, HBdi, HBi, HKi, KTi, HT5i, HT6i⟩ := hI
    exact hK _ _ (keepsFrom_of_kept (Kept.of_below hby (fun _ => False)) (fun _ _ h => h)) (Kept.of_below hby _) ⟨o, rwi, C5, h5_, C6, h6_, htl, hto, HBdi.below hby, below_step HBi hby, HKi.below hby, blk_below KTi hby, Kd.R_below HT5i hby, Kd.R_below HT6i hby⟩ ⟨HKi.1, blk_new W _⟩
   case body =>
    rintro lr pre x bx W hl ⟨o, rwi, C5, h5_, C6, h6_, htl, ⟨hro, hrl, hpo⟩, HBdi, HBi, HKi, KTi, HT5i, HT6i⟩ ⟨hbx, KXi⟩ hlt
    obtain ⟨E5, e5_, E6, e6_, hz, _, _, _, hv5, hv6⟩ := HZS.out x.1 x.2
    have hpq := HLOK.out x.1 x.2
    rw [hz] at KXi
    simp only [List.setIfInBounds_toArray, List.set_cons_succ, List.set_cons_zero, List.append_eq, List.cons_append, List.nil_append]
    rw [hz]
    dsimp only at KXi ⊢
    have hmap : (pre ++ [x]).map (fun x => l9.getD x.1 (false, [], [])) = pre.map (fun x => l9.getD x.1 (false, [], [])) ++ [l9.getD x.1 (false, [], [])] := by rw [List.map_append]; rfl
    generalize l9.getD x.1 (false, [], []) = q at hmap hpq hv5 hv6 KXi ⊢
    clear hz
    rw [← hrl] at hpq hpo
    obtain ⟨z, hz, hzl, hzr, hzp, hz9⟩ := seqPt_ok k n hn1 HKF.out hro hpq hpo
    have htl2 := tail_snoc k q (pre.map (fun x => l9.getD x.1 (false, [], []))) (fresh0 n true) rw_
    rw [htl, Option.bind_some, hz, Option.bind_some, ← hmap] at htl2
    have HTL := Lib.hid htl2; have HTO := Lib.hid (show RowsOk n z.2 ∧ z.2.length = rw_.length ∧ PtOk n rw_.length (true, z.1.2.1, z.1.2.2) from ⟨hzr, hzl.trans hrl, hrl ▸ ⟨hzp.f, hzp.l⟩⟩)
    clear htl2 hmap htl hro hrl hpo hpq hzl hzr hzp hz9
    have KBi := blk_kept KB9.out HKi (fun h => h.elim HNB.out (fun e => Nat.lt_irrefl _ (Nat.lt_of_lt_of_le (Nat.lt_of_lt_of_le HLB.out HW39.out) (e ▸ HSW4.out))))
    have bpi : W.cell? ⟨w.heap.size, 0, none⟩ = some (.pointer (some ⟨g, 0, none⟩)) := (blk_cell KBi 0).trans rfl
    obtain ⟨x0, x1, x2, _, _, _⟩ := cells3 KXi
    obtain ⟨s0, s1, s2, _, _, _⟩ := cells3 KTi
    have hvv5 := Kd.V_mono (Kd.V_kept hv5 HKi (fun q h1 h2 => h2.elim h1.1 (fun e => Nat.lt_irrefl _ (e ▸ h1.2)))) (ok' := fun q => ¬ Z' q) (fun q h => h.1)
    have hvv6 := Kd.V_mono (Kd.V_kept hv6 HKi (fun q h1 h2 => h2.elim h1.1 (fun e => Nat.lt_irrefl _ (e ▸ h1.2)))) (ok' := fun q => ¬ Z' q) (fun q h => h.1)
    have HCL := Lib.hid ((callsIn_wide (n := 5)).2 (seq_pt k w0 W g Z' n sy rwi q o z E5 E6 C5 C6 e5_ e6_ h5_ h6_ HBdi HT.out HBi hvv5 hvv6 (V_of_R HT5i) (V_of_R HT6i) hz))
    have HKTi := Lib.hid KTi; have HHKi := Lib.hid HKi; have Hhl := Lib.hid hl; have HHZ := Lib.hid HBdi.new
    clear hv5 hv6 hvv5 hvv6 HBdi HBi KXi KTi HT5i HT6i KBi hz hl hlt HKi
    gi_wp2_with (refine ⟨trivial, ?_⟩; gi_at_call 31; refine (CallsIn.inRound lr HCL.out).mono ?_; rintro e w2 ⟨A9, c9, A10, c10, rfl, h9, h10, hbd, hbb, hkk⟩; have HKT2 := Lib.hid (blk_kept HKTi.out hkk HNGT.out); have H9 := Lib.hid h9; have H10 := Lib.hid h10; have HBd2 := Lib.hid hbd; have HB2 := Lib.hid hbb; have HKK2 := Lib.hid hkk; clear h9 h10 hbd hbb hkk s0 s1 s2 x0 x1 x2 bpi HKTi HCL; obtain ⟨s0, s1, s2, u0, u1, u2⟩ := cells3 HKT2.out)
    have KP := blk_put (st3_blk (v0 := .bool z.1.1) (v1 := .slice A9 z.1.2.1.length c9) (v2 := .slice A10 z.1.2.2.length c10) HKT2.out) 0 (.bool true) rfl
    have hs : Kept w2 ((st3 w2 gt (.bool z.1.1) (.slice A9 z.1.2.1.length c9) (.slice A10 z.1.2.2.length c10)).setCell ⟨gt, 0, none⟩ (.bool true)) (fun q => q = gt) := Kept.setCell (S := fun q => q = gt) (st3_self _ _ _) (p := ⟨gt, 0, none⟩) (.inl rfl) _
    have hb := (st3_below (g := gt) HB2.out (Nat.le_trans HBS.out HGTW.out) (.bool z.1.1) (.slice A9 z.1.2.1.length c9) (.slice A10 z.1.2.2.length c10)).setCell (p := ⟨gt, 0, none⟩) (Nat.le_trans HBS.out HGTW.out) (.bool true)
    have hW := (HKK2.out.mono (S' := fun q => Z' q ∨ q = gt) (fun q h => .inl h)).then_ hs (fun q h => .inl (.inr h))
    have r9 := Kd.R_mono (Kd.R_lower H9.out (Nat.le_trans HK9.out.1 HHKi.out.1)) (ok' := fun q => ¬ Z' q) (fun q h => HHZ.out q h); have r10 := Kd.R_mono (Kd.R_lower H10.out (Nat.le_trans HK9.out.1 HHKi.out.1)) (ok' := fun q => ¬ Z' q) (fun q h => HHZ.out q h)
    have v9 := Kd.R_mono (Kd.R_kept (Kd.R_types r9 HKT2.out (by decide)) hs (fun q h1 h2 => h1.2 h2)) (ok' := fun q => ¬ Z' q) (fun q h => h.1); have v10 := Kd.R_mono (Kd.R_kept (Kd.R_types r10 HKT2.out (by decide)) hs (fun q h1 h2 => h1.2 h2)) (ok' := fun q => ¬ Z' q) (fun q h => h.1)
    exact ⟨keepsFrom_of_kept hW (fun q h1 h2 => h2.elim (fun hz => absurd (HZ9.out q hz) (Nat.not_lt.2 h1)) (fun e => absurd HGT9.out (Nat.not_lt.2 (e ▸ h1)))), hW.mono (fun q h => .inl h), (true, z.1.2.1, z.1.2.2), z.2, A9, c9, A10, c10, HTL.out, HTO.out, HBd2.out.kept hs (fun q h1 h2 => HNGT.out (h2 ▸ h1)), hb, HHKi.out.then_ hW (fun _ h => .inl h), KP, v9, v10⟩
   case done =>
    rintro D xs W hD rfl ⟨to_, trw, D5, e5_, D6, e6_, htl, _, HBdi, HBi, HKi, KTi, HT5i, HT6i⟩ hKD
    rw [down_map l9 (false, [], []) (Nat.le_refl _), List.take_of_length_le (by simp), HTT.out] at htl
    obtain rfl := Option.some.inj htl
    clear htl
    have HOO2 := HOO.out; have HZZ2 := HZZ.out
    dsimp only at HOO2 HZZ2
    obtain ⟨m2, hm2, hsl⟩ : ∃ m2 : Nat, m2 = f2.toNat ∧ ∀ wx : World, (Instr.sliceAt 89 (.slice (some ⟨gl, 0, none⟩) l.length vc) none (some (.int .i64 f2)) none).run Tryd.prog wx = .ok (.slice (some ⟨gl, 0, none⟩) m2 vc) wx := ⟨f2.toNat, rfl, slice_to gl l.length vc f2 HF2.out.1 (by have h1 := HF2.out.2.1; have h2 := HF2.out.2.2; omega)⟩
    have hm2l : m2 ≤ l.length := by have := HF2.out.2.1; omega
    rw [← hm2] at HOO2
    have hNi := Kd.N_take (Kd.N_kept HN9.out HKi (fun q h1 h2 => h2.elim h1.1.1.1 (fun e => Nat.lt_irrefl _ (Nat.lt_of_lt_of_le h1.1.2 (e ▸ HSW4.out))))) hm2l
    have HLE2 : Hid ((l.take m2).length = m2) := Lib.hid (by rw [List.length_take]; omega)
    have HLL : Hid (m2 ≤ 4096) := Lib.hid (by have h1 := HLN.out; have h2 := HT1.out; omega)
    generalize l.take m2 = l2 at HOO2 hNi HLE2
    have HROW := Lib.hid HOO2
    have HZZ3 := Lib.hid HZZ2
    have HNi := Lib.hid (Kd.V_mono (Kd.N_V (base' := 0) hNi) (ok' := fun q => ¬ Z' q) (fun q h => h.1.1.1))
    have HDD := Lib.hid hD; have HBdW := Lib.hid HBdi; have HBW := Lib.hid HBi; have HKW := Lib.hid (HK9.out.then_ HKi (fun q h => h.elim (HZW.out q) (fun e => .inr (e ▸ HGTW.out))))
    have KBW := Lib.hid (blk_kept KB9.out HKi (fun h => h.elim HNB.out (fun e => Nat.lt_irrefl _ (Nat.lt_of_lt_of_le (Nat.lt_of_lt_of_le HLB.out HW39.out) (e ▸ HSW4.out)))))
    have KRW := Lib.hid (blk_kept KR9.out HKi (fun h => h.elim HNR.out (fun e => Nat.lt_irrefl _ (Nat.lt_of_lt_of_le (Nat.lt_of_lt_of_le HLR.out HW39.out) (e ▸ HSW4.out)))))
    have KEW := Lib.hid (blk_kept KE9.out HKi (fun h => h.elim HNE.out (fun e => Nat.lt_irrefl _ (Nat.lt_of_lt_of_le (Nat.lt_of_lt_of_le HLE.out HW39.out) (e ▸ HSW4.out)))))
    have HTW := Lib.hid KTi; have H5W := Lib.hid HT5i; have H6W := Lib.hid HT6i; have HDW := Lib.hid hKD; have HDL := Lib.hid (blk_lt hKD)
    have bpi : W.cell? ⟨w.heap.size, 0, none⟩ = some (.pointer (some ⟨g, 0, none⟩)) := (blk_cell KBW.out 0).trans rfl
    clear HOO2 HZZ2 hNi HBdi HBi HKi KTi HT5i HT6i hKD hD HTT HOO HZZ HBd9 HB9 KB9 KR9 KE9 HN9 HT59 HT69 KT9 HZS hm2
    go_wp2_with (fail)
    clear bpi
    refine (none_calls g n true W (by obtain ⟨⟨v1, v2, hbk, _⟩, _⟩ := HBdW.out; exact (blk_cell hbk 0).trans rfl) hn0 hn1).mono ?_
    rintro e wa ⟨v5, v6, rfl, h5, h6, hb1⟩
    obtain ⟨B5, b5, rfl⟩ := Kd.R_slice h5
    obtain ⟨B6, b6, rfl⟩ := Kd.R_slice h6
    have hbo := below_alloc hb1 (.cells #[.bool true, .slice B5 (freshF n).length b5, .slice B6 (freshF n).length b6] 54)
    have hb2 := below_alloc (Below.refl wa.heap.size wa) (.cells #[.bool true, .slice B5 (freshF n).length b5, .slice B6 (freshF n).length b6] 54)
    have KO_ : (wa.alloc (.cells #[.bool true, .slice B5 (freshF n).length b5, .slice B6 (freshF n).length b6] 54)).heap[wa.heap.size]? = some (.cells #[.bool true, .slice B5 (freshF n).length b5, .slice B6 (freshF n).length b6] 54 (0, 0)) := blk_new wa _
    have HBdS := Lib.hid (HBdW.out.below hbo); have HBS_ := Lib.hid (below_step HBW.out hbo); have HKS := Lib.hid (HKW.out.below hbo); have KBS := Lib.hid (blk_below KBW.out hbo); have KRS := Lib.hid (blk_below KRW.out hbo); have KES := Lib.hid (blk_below KEW.out hbo)
    have HO5 := Lib.hid (Kd.R_mono (Kd.R_lower (Kd.R_bound (Kd.R_below h5 hb2)) HKW.out.1) (ok' := fun q => ¬ Z' q) (fun q h => HBdW.out.new q h.2.1)); have HO6 := Lib.hid (Kd.R_mono (Kd.R_lower (Kd.R_bound (Kd.R_below h6 hb2)) HKW.out.1) (ok' := fun q => ¬ Z' q) (fun q h => HBdW.out.new q h.2.1))
    have HV := Lib.hid (Kd.V_mono (Kd.V_below (Kd.V_bound HNi.out) hbo) (ok' := fun q => ¬ Z' q ∧ q < wa.heap.size) (fun q h => ⟨h.1, Nat.lt_of_lt_of_le h.2 hb1.size⟩))
    have HNGB : Hid (¬ w.heap.size = wa.heap.size) := Lib.hid (fun h => Nat.lt_irrefl _ (h ▸ Nat.lt_of_lt_of_le (blk_lt KBW.out) hb1.size)); have HNGR : Hid (¬ w.heap.size + 2 = wa.heap.size) := Lib.hid (fun h => Nat.lt_irrefl _ (h ▸ Nat.lt_of_lt_of_le (blk_lt KRW.out) hb1.size)); have HNGE : Hid (¬ w.heap.size + 1 = wa.heap.size) := Lib.hid (fun h => Nat.lt_irrefl _ (h ▸ Nat.lt_of_lt_of_le (blk_lt KEW.out) hb1.size))
    have HNGO := Lib.hid (HBdW.out.new _ hb1.size); have HGO0 := Lib.hid (Nat.le_trans HBW.out.size hb1.size); have HGOW := Lib.hid (Nat.le_trans HKW.out.1 hb1.size)
    have HTb := Lib.hid (blk_below HTW.out hbo); have HDb := Lib.hid (blk_below HDW.out hbo); have HEb := Lib.hid (blk_below KEW.out hbo)
    have H5b := Lib.hid (Kd.R_mono (Kd.R_below (Kd.R_bound H5W.out) hbo) (ok' := fun q => ¬ Z' q ∧ q < wa.heap.size) (fun q h => ⟨h.1, Nat.lt_of_lt_of_le h.2.2.1 hb1.size⟩)); have H6b := Lib.hid (Kd.R_mono (Kd.R_below (Kd.R_bound H6W.out) hbo) (ok' := fun q => ¬ Z' q ∧ q < wa.heap.size) (fun q h => ⟨h.1, Nat.lt_of_lt_of_le h.2.2.1 hb1.size⟩))
    have HNTG : Hid (¬ gt = wa.heap.size) := Lib.hid (fun h => Nat.lt_irrefl _ (h ▸ Nat.lt_of_lt_of_le (blk_lt HTW.out) hb1.size)); have HNDG : Hid (¬ D = wa.heap.size) := Lib.hid (fun h => Nat.lt_irrefl _ (h ▸ Nat.lt_of_lt_of_le HDL.out hb1.size))
    clear HTW HDW H5W H6W
    clear h5 h6 hb1 hbo hb2 HBdW HBW HKW KBW KRW KEW
    go_upto_region 32 with (fail)
    generalize wa.alloc (.cells #[.bool true, .slice B5 (freshF n).length b5, .slice B6 (freshF n).length b6] 54) = wb at KO_ HBdS HBS_ HKS KBS KRS KES HO5 HO6 HV HTb HDb HEb H5b H6b ⊢
    generalize wa.heap.size = go_ at KO_ HV HNGB HNGR HNGE HNGO HGO0 HGOW HNTG HNDG H5b H6b ⊢
    have KO := Lib.hid KO_; clear KO_ HNGE
    have e2 : wb.cell? ⟨w.heap.size + 1, 2, none⟩ = some (.int .i64 f2) := (blk_cell HEb.out 2).trans rfl
    go_wp2_with (fail)
    clear e2 hsl
    go_loopg [111] m2 (fun kq vX w' => ∃ (i : Int) (o : Pt) (rwi : List (List Int)) (A5 : Option Addr) (c5 : Nat) (A6 : Option Addr) (c6 : Nat), vX = .int .i64 i ∧ Hid (0 ≤ i ∧ i ≤ m2) ∧ Hid (kq = m2 - i.toNat) ∧ Hid (rowPts k (l2.drop i.toNat) o rwi = some (oo)) ∧ Hid (Bd w0 w' g Z' n sy rwi) ∧ Hid (Below w0.heap.size w0 w') ∧ Hid (Kept w w' Z) ∧ Hid (Kept wb w' (fun q => Z' q ∨ q = go_)) ∧
     Hid (w'.heap[go_]? = some (.cells #[.bool o.1, .slice A5 o.2.1.length c5, .slice A6 o.2.2.length c6] 54 (0, 0))) ∧ Hid (Kd.R KU 77 w' w.heap.size (fun k => ¬ Z' k) (.slice A5 o.2.1.length c5) o.2.1) ∧ Hid (Kd.R KU 77 w' w.heap.size (fun k => ¬ Z' k) (.slice A6 o.2.2.length c6) o.2.2))
    case atStart => exact ⟨0, fresh0 n true, trw, B5, b5, B6, b6, rfl, Lib.hid ⟨Int.le_refl _, by omega⟩, Lib.hid rfl, HROW, HBdS, HBS_, HKS, Lib.hid (Kept.refl _ _), KO, HO5, HO6⟩
    case round =>
     obtain ⟨i, o, rwi, C5, h5_, C6, h6_, rfl, HIX, HIQ, HIM, HBdi, HBi, HKi, HK0i, KOi, HO5i, HO6i⟩ := hrel
     have KBi := Lib.hid (blk_kept KBS.out HK0i.out (fun h => h.elim HNB.out HNGB.out)); have KRi := Lib.hid (blk_kept KRS.out HK0i.out (fun h => h.elim HNR.out HNGR.out))
     by_cases hlt : i < m2
     ·have hm := HIM.out
      obtain ⟨adl, L5, d5, L6, d6, eL, p0, p1, p2, hv5, hv6, _⟩ := parts_at (Kd.V_at (Kd.V_kept HV.out HK0i.out (fun q h1 h2 => h2.elim h1.1 (fun h3 => Nat.lt_irrefl _ (h3 ▸ h1.2))))).2.2 (false, [], []) i HIX.out.1 (by have := HLE2.out; omega)
      cases eL
      simp only [add_plain] at p0 p1 p2
      rw [pt_drop l2 i HIX.out.1 (by have := HLE2.out; omega)] at hm
      unfold rowPts at hm
      obtain ⟨o2, ho2, hm⟩ := Option.bind_eq_some_iff.1 hm
      generalize l2.getD i.toNat (false, [], []) = q at hm ho2 p0 p1 p2 hv5 hv6
      have HRE := Lib.hid hm; have HOO := Lib.hid ho2; have HLT := Lib.hid hlt; have HV5 := Lib.hid hv5; have HV6 := Lib.hid hv6
      have b2 : decide (i < (m2 : Int)) = true := decide_eq_true hlt
      have b3 : (0 ≤ i) = True := eq_true HIX.out.1
      have b4 : (i < (m2 : Int)) = True := eq_true hlt
      clear hm ho2 hlt hv5 hv6 HIM
      go_upto_region 35 with (fail)
      clear p0 p1 p2 b2 b3 b4
      have hby := below_alloc (Below.refl wr.heap.size wr) (.cells #[.bool q.1, .slice L5 q.2.1.length d5, .slice L6 q.2.2.length d6] 54)
      have KY_ : (wr.alloc (.cells #[.bool q.1, .slice L5 q.2.1.length d5, .slice L6 q.2.2.length d6] 54)).heap[wr.heap.size]? = some (.cells #[.bool q.1, .slice L5 q.2.1.length d5, .slice L6 q.2.2.length d6] 54 (0, 0)) := blk_new wr _
      have HBd3_ := Lib.hid (HBdi.out.below hby); have HB3_ := Lib.hid (below_step HBi.out hby); have HK3_ := Lib.hid (HKi.out.below hby); have HK03_ := Lib.hid (HK0i.out.below hby); have KO3_ := Lib.hid (blk_below KOi.out hby); have KB3_ := Lib.hid (blk_below KBi.out hby); have H53_ := Lib.hid (Kd.R_below HO5i.out hby); have H63_ := Lib.hid (Kd.R_below HO6i.out hby); have HV53 := Lib.hid (Kd.V_below HV5.out hby); have HV63 := Lib.hid (Kd.V_below HV6.out hby)
      clear hby HBdi HBi HKi HK0i KOi HO5i HO6i HV5 HV6 KBi KRi
      generalize wr.alloc (.cells #[.bool q.1, .slice L5 q.2.1.length d5, .slice L6 q.2.2.length d6] 54) = wx at KY_ HBd3_ HB3_ HK3_ HK03_ KO3_ KB3_ H53_ H63_ HV53 HV63 ⊢
      generalize wr.heap.size = gx at KY_ ⊢
      obtain ⟨x0, x1, x2, _, _, _⟩ := cells3 KY_
      obtain ⟨p0, p1, p2, _, _, _⟩ := cells3 KO3_.out
      have bpx : wx.cell? ⟨w.heap.size, 0, none⟩ = some (.pointer (some ⟨g, 0, none⟩)) := (blk_cell KB3_.out 0).trans rfl
      clear KY_ KB3_
      go_wp2_with (fail)
      clear x0 x1 x2 p0 p1 p2 bpx
      (with_reducible refine (seq_pt k w0 wx g Z' n sy rwi o q o2 C5 C6 L5 L6 h5_ h6_ d5 d6 HBd3_.out HT.out HB3_.out (V_of_R H53_.out) (V_of_R H63_.out) (Kd.V_mono HV53.out (fun q h => h.1)) (Kd.V_mono HV63.out (fun q h => h.1)) HOO.out).mono ?_); rintro e wy ⟨A9, c9, A10, c10, rfl, h9, h10, hbd, hbb, hkk⟩
      have HKO : Hid (wy.heap[go_]? = some (.cells #[.bool o.1, .slice C5 o.2.1.length h5_, .slice C6 o.2.2.length h6_] 54 (0, 0))) := Lib.hid (blk_kept KO3_.out hkk HNGO.out)
      have HNX := Lib.hid (HBd3_.out.new)
      have H9y := Lib.hid (Kd.R_lower (Kd.R_mono h9 (ok' := fun q => ¬ Z' q) (fun q h => HNX.out q h)) HK3_.out.1); have H10y := Lib.hid (Kd.R_lower (Kd.R_mono h10 (ok' := fun q => ¬ Z' q) (fun q h => HNX.out q h)) HK3_.out.1)
      have HBdy := Lib.hid hbd; have HBy := Lib.hid hbb; have HKy := Lib.hid (HK3_.out.then_ hkk (fun q h => (HZW.out q h))); have HK0y := Lib.hid (HK03_.out.then_ hkk (fun q h => .inl (.inl h)))
      clear hbd hbb hkk h9 h10 KO3_ H53_ H63_ HBd3_ HB3_ HK3_ HK03_
      obtain ⟨s0, s1, s2, u0, u1, u2⟩ := cells3 HKO.out
      go_upto_region 36 with (fail)
      clear s0 s1 s2 u0 u1 u2
      have hs := st3_self (w := wy) (g := go_) (.bool o2.1.1) (.slice A9 o2.1.2.1.length c9) (.slice A10 o2.1.2.2.length c10)
      have KP6 : (st3 wy go_ (.bool o2.1.1) (.slice A9 o2.1.2.1.length c9) (.slice A10 o2.1.2.2.length c10)).heap[go_]? = some (.cells #[.bool o2.1.1, .slice A9 o2.1.2.1.length c9, .slice A10 o2.1.2.2.length c10] 54 (0, 0)) := st3_blk HKO.out
      have h96 := Kd.R_mono (Kd.R_kept (Kd.R_types H9y.out HKO.out (by decide)) hs (fun q h1 h2 => h1.2 h2)) (ok' := fun q => ¬ Z' q) (fun q h => h.1); have h106 := Kd.R_mono (Kd.R_kept (Kd.R_types H10y.out HKO.out (by decide)) hs (fun q h1 h2 => h1.2 h2)) (ok' := fun q => ¬ Z' q) (fun q h => h.1)
      have hbd6 := HBdy.out.kept hs (fun q h1 h2 => HNGO.out (h2 ▸ h1)); have hb6 := st3_below (g := go_) HBy.out HGO0.out (.bool o2.1.1) (.slice A9 o2.1.2.1.length c9) (.slice A10 o2.1.2.2.length c10); have hk6 := st3_kept (g := go_) HKy.out (.inr HGOW.out) (.bool o2.1.1) (.slice A9 o2.1.2.1.length c9) (.slice A10 o2.1.2.2.length c10); have hk06 := st3_kept (g := go_) HK0y.out (.inl (.inr rfl)) (.bool o2.1.1) (.slice A9 o2.1.2.1.length c9) (.slice A10 o2.1.2.2.length c10)
      have hw : wrap64 (i + 1) = i + 1 := by have h1 := HLT.out; have h2 := HLL.out; have h3 := HIX.out.1; unfold wrap64; omega
      generalize hw6 : st3 wy go_ (.bool o2.1.1) (.slice A9 o2.1.2.1.length c9) (.slice A10 o2.1.2.2.length c10) = wz at KP6 h96 h106 hbd6 hb6 hk6 hk06
      have hw6' : ((wy.setCell ⟨go_, 0, none⟩ (.bool o2.1.1)).setCell ⟨go_, 1, none⟩ (.slice A9 o2.1.2.1.length c9)).setCell ⟨go_, 2, none⟩ (.slice A10 o2.1.2.2.length c10) = wz := hw6
      rw [hw6']; clear hw6 hw6' hs
      have HKP6 := Lib.hid KP6; have H96 := Lib.hid h96; have H106 := Lib.hid h106; have HBd6 := Lib.hid hbd6; have HB6 := Lib.hid hb6; have HK6 := Lib.hid hk6; have HK06 := Lib.hid hk06
      clear KP6 h96 h106 hbd6 hb6 hk6 hk06
      go_wp2_with (fail)
      go_roundg (m2 - (i + 1).toNat)
      case measure => have h1 := HLT.out; have h2 := HIQ.out; have h3 := HIX.out.1; omega
      case rel => exact ⟨i + 1, o2.1, o2.2, A9, c9, A10, c10, by rw [hw], Lib.hid ⟨by have := HIX.out.1; omega, by have := HLT.out; omega⟩, Lib.hid rfl, HRE, HBd6, HB6, HK6, HK06, HKP6, H96, H106⟩
     ·have hx : i = m2 := by have := HIX.out.2; omega
      subst hx
      have hm := HIM.out
      rw [Int.toNat_natCast, List.drop_of_length_le (by first | exact Nat.le_refl _ | exact Nat.le_of_eq HLE2.out)] at hm
      unfold rowPts at hm
      obtain rfl := Option.some.inj hm
      clear hm HIM
      have b2 : decide ((m2 : Int) < (m2 : Int)) = false := decide_eq_false hlt
      have KTi := Lib.hid (blk_kept HTb.out HK0i.out (fun h => h.elim HNGT.out HNTG.out))
      have KDi := Lib.hid (blk_kept HDb.out HK0i.out (fun h => h.elim (fun hz => absurd (HZ9.out D hz) (Nat.not_lt.2 HDD.out)) HNDG.out))
      have h5i := Kd.R_mono (Kd.R_kept H5b.out HK0i.out (fun q h1 h2 => h2.elim h1.1 (fun e => Nat.lt_irrefl _ (e ▸ h1.2)))) (ok' := fun q => ¬ Z' q) (fun q h => h.1); have h6i := Kd.R_mono (Kd.R_kept H6b.out HK0i.out (fun q h1 h2 => h2.elim h1.1 (fun e => Nat.lt_irrefl _ (e ▸ h1.2)))) (ok' := fun q => ¬ Z' q) (fun q h => h.1)
      have H5i := Lib.hid h5i; have H6i := Lib.hid h6i
      have hzz := HZZ3.out
      dsimp only at hzz
      have HZQ := Lib.hid hzz
      clear h5i h6i hzz HZZ3 HTb HDb H5b H6b
      have bpr : wr.cell? ⟨w.heap.size, 0, none⟩ = some (.pointer (some ⟨g, 0, none⟩)) := (blk_cell KBi.out 0).trans rfl
      obtain ⟨p0, p1, p2, _, _, _⟩ := cells3 KOi.out
      obtain ⟨s0, s1, s2, _, _, _⟩ := cells3 KTi.out
      go_wp2_with (fail)
      clear p0 p1 p2 s0 s1 s2 bpr b2
      (with_reducible refine (seq_pt k w0 wr g Z' n sy rwi o to_ zz C5 C6 D5 D6 h5_ h6_ e5_ e6_ HBdi.out HT.out HBi.out (V_of_R HO5i.out) (V_of_R HO6i.out) (V_of_R H5i.out) (V_of_R H6i.out) HZQ.out).mono ?_); rintro e wq ⟨A9, c9, A10, c10, rfl, h9, h10, hbd, hbb, hkk⟩
      have HKRq := Lib.hid (blk_kept KRi.out hkk HNR.out); have HKDq := Lib.hid (blk_kept KDi.out hkk (fun hz => absurd (HZ9.out D hz) (Nat.not_lt.2 HDD.out)))
      have H9 := Lib.hid h9; have H10 := Lib.hid h10; have HBdq := Lib.hid hbd; have HBq := Lib.hid hbb; have HKq := Lib.hid (HKi.out.then_ hkk HZW.out); have HNq := Lib.hid HBdi.out.new; have HKz := Lib.hid HKi.out.1
      clear h9 h10 hbd hbb hkk HBdi HBi HK0i KOi KBi KRi HO5i HO6i KTi KDi H5i H6i
      obtain ⟨r0, r1, r2, u0, u1, u2⟩ := cells3 HKRq.out
      go_wp2_with (fail)
      have hs := st3_self (w := wq) (g := w.heap.size + 2) (.bool zz.1.1) (.slice A9 zz.1.2.1.length c9) (.slice A10 zz.1.2.2.length c10)
      have KDf := blk_kept HKDq.out hs (fun e => Nat.lt_irrefl _ (Nat.lt_of_lt_of_le (e ▸ HLR9.out) HDD.out))
      refine ⟨by simp, .inl ⟨_, _, rfl, run_takeDeferred KDf, ?_⟩⟩
      have hp := kept_putObj (S := fun q => q = D) (W := st3 wq (w.heap.size + 2) (.bool zz.1.1) (.slice A9 zz.1.2.1.length c9) (.slice A10 zz.1.2.2.length c10)) D (.deferred none) rfl
      have HND2 : ¬ w.heap.size + 2 = D := fun e => Nat.lt_irrefl _ (Nat.lt_of_lt_of_le (e ▸ HLR9.out) HDD.out)
      have KRf := blk_kept (st3_blk (v0 := .bool zz.1.1) (v1 := .slice A9 zz.1.2.1.length c9) (v2 := .slice A10 zz.1.2.2.length c10) HKRq.out) hp HND2
      refine ⟨_, results_cell_row rfl _ _ (w.heap.size + 2) 54 #[.bool zz.1.1, .slice A9 zz.1.2.1.length c9, .slice A10 zz.1.2.2.length c10] (0, 0) _ rfl KRf Tryd.underlying54 rfl (by kernel_rfl), ?_⟩
      have hgo : (st3 wq (w.heap.size + 2) (.bool zz.1.1) (.slice A9 zz.1.2.1.length c9) (.slice A10 zz.1.2.2.length c10)).grownBy ((st3 wq (w.heap.size + 2) (.bool zz.1.1) (.slice A9 zz.1.2.1.length c9) (.slice A10 zz.1.2.2.length c10)).putObj D (.deferred none)) (some D) := grownBy_putObj' _ D _
      have hrw : ∀ r, some D = some r → w9.heap.size ≤ r ∧ ∃ o : Obj, (st3 wq (w.heap.size + 2) (.bool zz.1.1) (.slice A9 zz.1.2.1.length c9) (.slice A10 zz.1.2.2.length c10)).heap[r]? = some o ∧ o.isCells = false := fun r e => by cases e; exact ⟨HDD.out, _, KDf, rfl⟩
      have r9 := Kd.R_mono (Kd.R_lower H9.out HKz.out) (ok' := fun q => ¬ Z' q) (fun q h => HNq.out q h); have r10 := Kd.R_mono (Kd.R_lower H10.out HKz.out) (ok' := fun q => ¬ Z' q) (fun q h => HNq.out q h)
      have v9 := Kd.R_mono (Kd.R_kept (Kd.R_types r9 HKRq.out (by decide)) hs (fun q h1 h2 => h1.2 h2)) (ok' := fun q => ¬ Z' q) (fun q h => h.1); have v10 := Kd.R_mono (Kd.R_kept (Kd.R_types r10 HKRq.out (by decide)) hs (fun q h1 h2 => h1.2 h2)) (ok' := fun q => ¬ Z' q) (fun q h => h.1)
      exact ⟨Z', A9, c9, A10, c10, rfl, R_row v9 hgo hrw, R_row v10 hgo hrw, (HBdq.out.kept hs (fun q h1 h2 => HNR.out (h2 ▸ h1))).kept hp (fun q h1 h2 => absurd (HZ9.out q h1) (Nat.not_lt.2 (h2 ▸ HDD.out))), HZW.out, (st3_below HBq.out (Nat.le_trans HBS.out (Nat.le_add_right _ 2)) _ _ _).grown hgo (Nat.le_trans HBq.out.size hs.1) (fun q e => by cases e; exact Nat.le_trans HB90.out HDD.out), (st3_kept HKq.out (.inr (Nat.le_add_right _ 2)) _ _ _).then_ hp (fun q e => .inr (e ▸ Nat.le_trans HK9.out.1 HDD.out))⟩
end Go.Proofs.YthocjdlcopmhiaaDoor.G
namespace Go.Proofs.YthocjdlcopmhiaaDoor.G
open Go.RowKit Go.Proofs.YthocjdlcopmhiaaDoorW.PrintWords Go.Proofs.YthocjdlcopmhiaaDoorW.PrintLast Go.Proofs.YthocjdlcopmhiaaDoorW.PrintMore
attribute [local go_sem] max2_int min2_int max_two min_two max_three min_three max_four min_four
set_option linter.unusedVariables false
set_option linter.unusedSimpArgs false
set_option maxHeartbeats 8000000 in
set_option maxRecDepth 100000 in
theorem part_rep (n : Int) (w0 w : World) (g : Nat) (Z : Nat → Prop) (syms : List Int) (rows : List (List Int)) (f1 f2 f3 : Int) (f4 : List Pr.S24) (A : Option Addr) (c : Nat) (r : PR)
  (hb : Bd w0 w g Z n syms rows) (hB : Below w0.heap.size w0 w)
  (hrep : ∀ w1 : World, Bd w0 w1 g Z n syms rows → Below w0.heap.size w0 w1 → Calls Tryd.prog 33 #[.pointer (some ⟨g, 0, none⟩), EV ⟨5, f1, f2, f3, f4⟩ A c] w1 (PartPost w0 w1 g Z n r)) :
  Calls Tryd.prog 19 #[.pointer (some ⟨g, 0, none⟩), EV ⟨5, f1, f2, f3, f4⟩ A c] w (PartPost w0 w g Z n r) := by
 have hu54 := Tryd.underlying54; have hu24 := Tryd.underlying24
 unfold EV at hrep ⊢
 dsimp only at hrep ⊢
 have HBd := Lib.hid hb; have HB := Lib.hid hB; have HREP := Lib.hid hrep
 clear hb hB hrep
 go_enter Tryd.func19, Tryd.ntmps19
 go_upto_region 1 with (fail)
 have HB2 := below_alloc (below_alloc (Below.refl w.heap.size w) (.cells #[.int .i64 5, .int .i64 f1, .int .i64 f2, .int .i64 f3, .slice A f4.length c] 24)) (.cells #[.bool false, .slice none 0 0, .slice none 0 0] 54)
 have KX : ((w.alloc (.cells #[.int .i64 5, .int .i64 f1, .int .i64 f2, .int .i64 f3, .slice A f4.length c] 24)).alloc (.cells #[.bool false, .slice none 0 0, .slice none 0 0] 54)).heap[w.heap.size]? = some (.cells #[.int .i64 5, .int .i64 f1, .int .i64 f2, .int .i64 f3, .slice A f4.length c] 24 (0, 0)) := blk_alloc (blk_new w _) _
 have KR : ((w.alloc (.cells #[.int .i64 5, .int .i64 f1, .int .i64 f2, .int .i64 f3, .slice A f4.length c] 24)).alloc (.cells #[.bool false, .slice none 0 0, .slice none 0 0] 54)).heap[w.heap.size + 1]? = some (.cells #[.bool false, .slice none 0 0, .slice none 0 0] 54 (0, 0)) := by
  have := blk_new (w.alloc (.cells #[.int .i64 5, .int .i64 f1, .int .i64 f2, .int .i64 f3, .slice A f4.length c] 24)) (.cells #[.bool false, .slice none 0 0, .slice none 0 0] 54); simpa using this
 generalize (w.alloc (.cells #[.int .i64 5, .int .i64 f1, .int .i64 f2, .int .i64 f3, .slice A f4.length c] 24)).alloc (.cells #[.bool false, .slice none 0 0, .slice none 0 0] 54) = wA at HB2 KX KR ⊢
 have HBA := Lib.hid (below_step HB.out HB2); have HBdA := Lib.hid (HBd.out.below HB2); have HW2 := Lib.hid HB2; have HBS := Lib.hid HB.out.size; have HNZ := Lib.hid HBd.out.new
 have KXA := Lib.hid KX; have KRA := Lib.hid KR
 clear KX KR HB2 HB HBd
 have e0 : wA.cell? ⟨w.heap.size, 0, none⟩ = some (.int .i64 5) := (blk_cell KXA.out 0).trans rfl
 have e1 : wA.cell? ⟨w.heap.size, 1, none⟩ = some (.int .i64 f1) := (blk_cell KXA.out 1).trans rfl
 have e2 : wA.cell? ⟨w.heap.size, 2, none⟩ = some (.int .i64 f2) := (blk_cell KXA.out 2).trans rfl
 have e3 : wA.cell? ⟨w.heap.size, 3, none⟩ = some (.int .i64 f3) := (blk_cell KXA.out 3).trans rfl
 have e4 : wA.cell? ⟨w.heap.size, 4, none⟩ = some (.slice A f4.length c) := (blk_cell KXA.out 4).trans rfl
 go_wp2_with (fail)
 clear e0 e1 e2 e3 e4
 refine (HREP.out wA HBdA.out HBA.out).mono ?_
 rintro e w2 ⟨Z', A5, c5, A6, c6, rfl, h5, h6, hbd, hzi, hbb, hkk⟩
 have KR2 := Lib.hid (blk_kept KRA.out hkk (HNZ.out _ (Nat.le_succ _)))
 have HNR : Hid (¬ Z' (w.heap.size + 1)) := Lib.hid (fun hz => (hzi _ hz).elim (HNZ.out _ (Nat.le_succ _)) (fun h => Nat.lt_irrefl _ (Nat.lt_of_lt_of_le (blk_lt KRA.out) h)))
 have HZI : Hid (∀ q, Z' q → Z q ∨ w.heap.size ≤ q) := Lib.hid (fun q h => (hzi q h).elim .inl (fun h4 => .inr (Nat.le_trans HW2.out.size h4)))
 have H5 := Lib.hid (Kd.R_lower h5 HW2.out.size); have H6 := Lib.hid (Kd.R_lower h6 HW2.out.size)
 have HBd2 := Lib.hid hbd; have HBb := Lib.hid hbb; have HK2 := Lib.hid ((Kept.of_below HW2.out Z).then_ hkk (fun q h => .inl h))
 clear h5 h6 hbd hzi hbb hkk HBdA HBA KXA KRA HREP
 obtain ⟨r0, r1, r2, q0, q1, q2⟩ := cells3 KR2.out
 go_wp2_with (fail)
 refine bodyPost_ret (results_cell_row rfl _ _ (w.heap.size + 1) 54 #[.bool r.null, .slice A5 r.fst.length c5, .slice A6 r.lst.length c6] (0, 0) _ rfl (st3_blk KR2.out) Tryd.underlying54 rfl (by kernel_rfl)) rfl ?_
 have hs := st3_self (w := w2) (g := w.heap.size + 1) (.bool r.null) (.slice A5 r.fst.length c5) (.slice A6 r.lst.length c6)
 exact ⟨Z', A5, c5, A6, c6, rfl, Kd.R_mono (Kd.R_kept (Kd.R_types H5.out KR2.out (by decide)) hs (fun q h1 h2 => h1.2 h2)) (fun q h => h.1), Kd.R_mono (Kd.R_kept (Kd.R_types H6.out KR2.out (by decide)) hs (fun q h1 h2 => h1.2 h2)) (fun q h => h.1), HBd2.out.kept hs (fun q h1 h2 => HNR.out (h2 ▸ h1)), HZI.out, st3_below HBb.out (Nat.le_trans HBS.out (Nat.le_add_right _ 1)) _ _ _, st3_kept HK2.out (.inr (Nat.le_add_right _ 1)) _ _ _⟩
set_option maxHeartbeats 8000000 in
set_option maxRecDepth 100000 in
theorem part_other (n : Int) (hn0 : 0 ≤ n) (hn1 : n ≤ 512) (w0 w : World) (g : Nat) (Z : Nat → Prop) (syms : List Int) (rows : List (List Int)) (f0 f1 f2 f3 : Int) (f4 : List Pr.S24) (A : Option Addr) (c : Nat) (h2 : f0 ≠ 2) (h3 : f0 ≠ 3) (h4 : f0 ≠ 4) (h5 : f0 ≠ 5)
  (hb : Bd w0 w g Z n syms rows) (hB : Below w0.heap.size w0 w) :
  Calls Tryd.prog 19 #[.pointer (some ⟨g, 0, none⟩), EV ⟨f0, f1, f2, f3, f4⟩ A c] w (PartPost w0 w g Z n (outPt (fresh0 n (f0 == 1)) syms rows)) := by
 have hu54 := Tryd.underlying54; have hu24 := Tryd.underlying24
 unfold EV
 dsimp only
 have b2 : ((f0 == 2) : Bool) = false := by simpa using h2
 have b3 : ((f0 == 3) : Bool) = false := by simpa using h3
 have b4 : ((f0 == 4) : Bool) = false := by simpa using h4
 have b5 : ((f0 == 5) : Bool) = false := by simpa using h5
 have HBd := Lib.hid hb; have HB := Lib.hid hB
 clear hb hB h2 h3 h4 h5
 go_enter Tryd.func19, Tryd.ntmps19
 go_upto_region 1 with (fail)
 have HB2 := below_alloc (below_alloc (Below.refl w.heap.size w) (.cells #[.int .i64 f0, .int .i64 f1, .int .i64 f2, .int .i64 f3, .slice A f4.length c] 24)) (.cells #[.bool false, .slice none 0 0, .slice none 0 0] 54)
 have KX : ((w.alloc (.cells #[.int .i64 f0, .int .i64 f1, .int .i64 f2, .int .i64 f3, .slice A f4.length c] 24)).alloc (.cells #[.bool false, .slice none 0 0, .slice none 0 0] 54)).heap[w.heap.size]? = some (.cells #[.int .i64 f0, .int .i64 f1, .int .i64 f2, .int .i64 f3, .slice A f4.length c] 24 (0, 0)) := blk_alloc (blk_new w _) _
 have KR : ((w.alloc (.cells #[.int .i64 f0, .int .i64 f1, .int .i64 f2, .int .i64 f3, .slice A f4.length c] 24)).alloc (.cells #[.bool false, .slice none 0 0, .slice none 0 0] 54)).heap[w.heap.size + 1]? = some (.cells #[.bool false, .slice none 0 0, .slice none 0 0] 54 (0, 0)) := by
  have := blk_new (w.alloc (.cells #[.int .i64 f0, .int .i64 f1, .int .i64 f2, .int .i64 f3, .slice A f4.length c] 24)) (.cells #[.bool false, .slice none 0 0, .slice none 0 0] 54); simpa using this
 generalize (w.alloc (.cells #[.int .i64 f0, .int .i64 f1, .int .i64 f2, .int .i64 f3, .slice A f4.length c] 24)).alloc (.cells #[.bool false, .slice none 0 0, .slice none 0 0] 54) = wA at HB2 KX KR ⊢
 have HBA := Lib.hid (below_step HB.out HB2); have HBdA := Lib.hid (HBd.out.below HB2); have HW2 := Lib.hid HB2; have HBS := Lib.hid HB.out.size; have HNZ := Lib.hid HBd.out.new
 have KXA := Lib.hid KX; have KRA := Lib.hid KR
 clear KX KR HB2 HB HBd
 have e0 : wA.cell? ⟨w.heap.size, 0, none⟩ = some (.int .i64 f0) := (blk_cell KXA.out 0).trans rfl
 go_wp2_with (fail)
 clear e0 b2 b3 b4 b5
 refine (none_calls g n (f0 == 1) wA (by obtain ⟨⟨v1, v2, hbk, _⟩, _⟩ := HBdA.out; exact (blk_cell hbk 0).trans rfl) hn0 hn1).mono ?_
 rintro e w2 ⟨v5, v6, rfl, h5, h6, hb1⟩
 obtain ⟨A5, c5, rfl⟩ := Kd.R_slice h5
 obtain ⟨A6, c6, rfl⟩ := Kd.R_slice h6
 have HNA := HBdA.out.new
 have KR2 := Lib.hid (blk_below KRA.out hb1); have HBd2 := Lib.hid (HBdA.out.below hb1); have HBb := Lib.hid (below_step HBA.out hb1); have HK2 := Lib.hid (Kept.of_below (below_step HW2.out hb1) Z)
 have H5 := Lib.hid (Kd.R_mono (Kd.R_lower (Kd.R_bound h5) HW2.out.size) (ok' := fun q => ¬ Z q) (fun q h => HNA q h.2.1)); have H6 := Lib.hid (Kd.R_mono (Kd.R_lower (Kd.R_bound h6) HW2.out.size) (ok' := fun q => ¬ Z q) (fun q h => HNA q h.2.1))
 clear h5 h6 hb1 HNA KRA KXA HBdA HBA
 obtain ⟨r0, r1, r2, q0, q1, q2⟩ := cells3 KR2.out
 go_wp2_with (fail)
 refine bodyPost_ret (results_cell_row rfl _ _ (w.heap.size + 1) 54 #[.bool (f0 == 1), .slice A5 (freshF n).length c5, .slice A6 (freshF n).length c6] (0, 0) _ rfl (st3_blk KR2.out) Tryd.underlying54 rfl (by kernel_rfl)) rfl ?_
 have hs := st3_self (w := w2) (g := w.heap.size + 1) (.bool (f0 == 1)) (.slice A5 (freshF n).length c5) (.slice A6 (freshF n).length c6)
 exact ⟨Z, A5, c5, A6, c6, rfl, Kd.R_mono (Kd.R_kept (Kd.R_types H5.out KR2.out (by decide)) hs (fun q h1 h2 => h1.2 h2)) (fun q h => h.1), Kd.R_mono (Kd.R_kept (Kd.R_types H6.out KR2.out (by decide)) hs (fun q h1 h2 => h1.2 h2)) (fun q h => h.1), HBd2.out.kept hs (fun q h1 h2 => HNZ.out q (h2 ▸ Nat.le_succ _) h1), fun q h => .inl h, st3_below HBb.out (Nat.le_trans HBS.out (Nat.le_add_right _ 1)) _ _ _, st3_kept HK2.out (.inr (Nat.le_add_right _ 1)) _ _ _⟩
theorem rep_calls (k : Nat) (n : Int) (hn0 : 0 ≤ n) (hn1 : n ≤ 512) (pf : PFn) (hpf : PartOk 19 n pf) (w0 w : World) (g : Nat) (Z : Nat → Prop) (syms : List Int) (rows : List (List Int)) (e : Pr.S24) (A : Option Addr) (c : Nat) (r : PR)
  (hb : Bd w0 w g Z n syms rows) (htab : HTab w0) (hB : Below w0.heap.size w0 w) (hC : Kd.C Pr.k24 w0 A e.f4.length e.f4) (hc : e.f4.length ≤ c) (h : repF k n pf e syms rows = some r) :
  Calls Tryd.prog 33 #[.pointer (some ⟨g, 0, none⟩), EV e A c] w (PartPost w0 w g Z n r) := by
 obtain ⟨f0, f1, f2, f3, f4⟩ := e
 unfold repF at h
 dsimp only at h hC hc
 obtain ⟨hp, h⟩ := some_if h
 obtain ⟨t, ht, h⟩ := Option.bind_eq_some_iff.1 h
 by_cases ht0 : t = 0
 ·subst ht0
  rw [if_pos rfl] at h
  obtain rfl := Option.some.inj h
  exact rep_zero k n hn0 hn1 pf hpf w0 w g Z syms rows f0 f1 f2 f3 f4 A c hb htab hB hC hc hp ht
 rw [if_neg ht0] at h
 obtain ⟨p, hpo, h⟩ := Option.bind_eq_some_iff.1 h
 by_cases hp0 : p = 0
 ·subst hp0
  rw [if_pos rfl] at h
  obtain ⟨q, hq, h⟩ := Option.bind_eq_some_iff.1 h
  obtain rfl := Option.some.inj h
  exact rep_none k n hn0 hn1 pf hpf w0 w g Z syms rows f0 f1 f2 f3 f4 A c t q hb htab hB hC hc hp ht ht0 hpo hq
 rw [if_neg hp0] at h
 obtain ⟨ht1, h⟩ := some_if h
 obtain ⟨cc, hcc, h⟩ := Option.bind_eq_some_iff.1 h
 by_cases h3 : f3 = -1
 ·subst h3
  rw [if_pos rfl] at h
  have htp : 0 < t := by
   unfold repFor at h
   have := (some_if h).1
   omega
  exact rep_for k n hn0 hn1 pf hpf w0 w g Z syms rows f0 f1 f2 f4 A c t p cc r hb htab hB hC hc hp ht htp ht1 hpo hp0 hcc h
 rw [if_neg h3] at h
 obtain ⟨h20, h⟩ := some_if h
 obtain ⟨h2t, h⟩ := some_if h
 exact rep_to k n hn0 hn1 pf hpf w0 w g Z syms rows f0 f1 f2 f3 f4 A c t p cc r hb htab hB hC hc hp ht (by omega) ht1 hpo hp0 hcc h3 h20 h2t h
theorem part_calls (n : Int) (hn0 : 0 ≤ n) (hn1 : n ≤ 512) : ∀ k, PartOk 19 n (partF k n)
 | 0 => fun _ _ _ _ _ _ _ _ _ _ _ _ _ _ _ h => by cases h
 | k + 1 => fun w0 w g Z syms rows e A c r hb htab hB hC hc h => by
  have ih := part_calls n hn0 hn1 k
  obtain ⟨f0, f1, f2, f3, f4⟩ := e
  unfold partF at h
  dsimp only at h hC hc
  by_cases h2 : f0 = 2
  ·subst h2; rw [if_pos rfl] at h
   exact part_sym n hn0 hn1 w0 w g Z syms rows f1 f2 f3 f4 A c r hb hB h
  rw [if_neg h2] at h
  by_cases h3 : f0 = 3
  ·subst h3; rw [if_pos rfl] at h
   exact part_seq k n hn0 hn1 _ ih w0 w g Z syms rows f1 f2 f3 f4 A c r hb htab hB hC hc h
  rw [if_neg h3] at h
  by_cases h4 : f0 = 4
  ·subst h4; rw [if_pos rfl] at h
   exact part_alt k n hn0 hn1 _ ih w0 w g Z syms rows f1 f2 f3 f4 A c r hb htab hB hC hc h
  rw [if_neg h4] at h
  by_cases h5 : f0 = 5
  ·subst h5; rw [if_pos rfl] at h
   exact part_rep n w0 w g Z syms rows f1 f2 f3 f4 A c r hb hB (fun w1 hb1 hB1 => rep_calls k n hn0 hn1 _ ih w0 w1 g Z syms rows ⟨5, f1, f2, f3, f4⟩ A c r hb1 htab hB1 hC hc h)
  rw [if_neg h5] at h
  obtain rfl := Option.some.inj h
  exact part_other n hn0 hn1 w0 w g Z syms rows f0 f1 f2 f3 f4 A c h2 h3 h4 h5 hb hB
end Go.Proofs.YthocjdlcopmhiaaDoor.G
