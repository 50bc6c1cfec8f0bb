import Derived.Test.YtfpedicgeepikaaProg
import Derived.Below
import Derived.Deep.Draws
import Derived.Deep.AppendLies
import Derived.Maps.AppendAt
import Derived.OwnWalk
import Derived.Laws.BytesArg
import Derived.Laws.MakeOwn
import Derived.Laws.OwnMore
import Derived.Deep.OwnRows
import Derived.Tactics
import Derived.Lib.ConvBytes
import Derived.Laws.Slices
import Derived.WalkKit
import Derived.KernelRfl
import Derived.RowKit3
import Derived.Deep.LoopGhost
import Derived.Deep.QuietTactic
import Derived.BigQuiet
import Derived.WideLaws
import Derived.Deep.DeepCutAuto
import Derived.Deep.CutBlock
import Derived.Deep.RegionHeld3
import Derived.Laws.Rows
import Derived.Lib.AppendStr
import Derived.ArgAppend
import Derived.Laws.IdiomCopy
import Derived.OrdersHeld
import Derived.Laws.BitsLemmas
import Derived.RowKit
import Derived.Test.YtfpedicgeepikaaWWords
import Derived.Test.YtfpedicgeepikaaWLast
import Derived.Test.YtfpedicgeepikaaWTab
import Derived.Test.YtfpedicgeepikaaWQPut
import Derived.Test.YtfpedicgeepikaaWApart
import Derived.Test.YtfpedicgeepikaaWArr
import Derived.Test.YtfpedicgeepikaaWZeros
import Derived.Test.YtfpedicgeepikaaWFoot
import Derived.Test.YtfpedicgeepikaaWKept
import Derived.Test.YtfpedicgeepikaaWShare
import Derived.Test.YtfpedicgeepikaaWN
import Derived.Test.YtfpedicgeepikaaWRepsOne
import Derived.Test.YtfpedicgeepikaaWGuard
import Derived.Test.YtfpedicgeepikaaWNEv
import Derived.Test.YtfpedicgeepikaaWMore
import Derived.Test.YtfpedicgeepikaaG1
import Derived.Sort.OwnSorted
import Derived.Lib.RowBridge

namespace Go.Proofs.Ytfpedicgeepikaa.G
open Go.RowKit Go.Proofs.YtfpedicgeepikaaW.PrintWords Go.Proofs.YtfpedicgeepikaaW.PrintLast Go.Proofs.YtfpedicgeepikaaW.PrintMore
attribute [local go_sem] max2_int min2_int max_two min_two max_three min_three max_four min_four
set_option linter.unusedVariables false
set_option linter.unusedSimpArgs false

open Go.Sort
/-! ### rows of texts: sorted, each once -/
def lst (s : ByteArray) : List UInt8 := s.data.toList
def mkB (l : List UInt8) : ByteArray := ⟨l.toArray⟩
theorem mk_lst (s : ByteArray) : mkB (lst s) = s := by simp [mkB, lst]
theorem lst_mk (l : List UInt8) : lst (mkB l) = l := by simp [mkB, lst]
theorem strs_enc (l : List ByteArray) : l.map Value.string = (l.map lst).map encStr := by
  rw [List.map_map]
  exact List.map_congr_left (fun x _ => congrArg Value.string (mk_lst x).symm)
theorem enc_strs (l : List (List UInt8)) : l.map encStr = (l.map mkB).map Value.string := by
  rw [List.map_map]
  rfl
def sortL (l : List ByteArray) : List ByteArray := ((l.map lst).mergeSort fun x y => decide (x ≤ y)).map mkB
def compL (l : List ByteArray) : List ByteArray := (Lib.compact (l.map lst)).map mkB
theorem sortL_length (l : List ByteArray) : (sortL l).length = l.length := by simp [sortL]
theorem compL_length (l : List ByteArray) : (compL l).length ≤ l.length := by
  have := Lib.compact_length_le (l.map lst)
  simpa [compL] using this
theorem grown_refl (w : World) (r : Option Nat) : w.grownBy w r := ⟨rfl, rfl, rfl, Nat.le_refl _, fun _ _ _ => rfl⟩
theorem sort_own {base : Nat} (v : Value) (l : List ByteArray) (w : World) (h : w.ownsRow base 9 1 v l.length (l.map Value.string)) (hb : base ≤ w.heap.size) (hl : l.length ≤ 8796093022208) :
    Calls Try.prog 38 #[v] w fun e w' => e = .returned (.tuple #[]) ∧ w'.ownsRow base 9 1 v (sortL l).length ((sortL l).map Value.string) ∧ Below base w w' ∧ w.grownBy w' v.ownBlock := by
  rcases h.2 with ⟨rfl, hn⟩ | ⟨g, cap, cur, rfl, hbase, hc, h1, h2, h3, h4⟩
  · obtain rfl : l = [] := List.eq_nil_of_length_eq_zero hn
    refine (sh_slices_Sort_string_none none 0 w).mono ?_
    rintro e w' ⟨rfl, rfl⟩
    exact ⟨rfl, by simpa [sortL] using h, Below.refl _ _, grown_refl _ _⟩
  · have h4' : cur.toList.take (l.map lst).length = (l.map lst).map encStr := by rw [← strs_enc, List.length_map, ← h4, Nat.mul_one]
    have hs := sh_slices_Sort_string g 0 cap (l.map lst) w (holds_of_block hc h4') (Array.getElem?_eq_some_iff.1 hc).1 (by simp; omega)
    rw [List.length_map] at hs
    refine hs.mono ?_
    rintro e w' ⟨rfl, n, os, rfl⟩
    refine ⟨rfl, ?_, (Below.refl base w).grown (grownBy_sorted _) hb (by intro k hk; injection hk with hk; omega), grownBy_sorted _⟩
    have := ownsRow_sorted (n := n) (os := os) (ss := l.map lst) (ts := (l.map lst).mergeSort fun x y => decide (x ≤ y)) (by simp) hbase hc (by simpa using h1) h2 h3
    rw [List.length_map, enc_strs] at this
    rw [sortL_length]
    exact this
theorem compact_own {base : Nat} (v : Value) (l : List ByteArray) (w : World) (h : w.ownsRow base 9 1 v l.length (l.map Value.string)) (hb : base ≤ w.heap.size) (hl : l.length ≤ 8796093022208) :
    Calls Try.prog 40 #[v] w fun e w' => ∃ v', e = .returned v' ∧ w'.ownsRow base 9 1 v' (compL l).length ((compL l).map Value.string) ∧ Below base w w' ∧ w.grownBy w' v.ownBlock ∧ v'.ownBlock = v.ownBlock := by
  rcases h.2 with ⟨rfl, hn⟩ | ⟨g, cap, cur, rfl, hbase, hc, h1, h2, h3, h4⟩
  · obtain rfl : l = [] := List.eq_nil_of_length_eq_zero hn
    refine (sh_slices_Compact_string_empty none 0 w).mono ?_
    rintro e w' ⟨rfl, rfl⟩
    exact ⟨_, rfl, by simpa [compL, Lib.compact, Lib.compactUpTo] using h, Below.refl _ _, grown_refl _ _, rfl⟩
  · have h4' : cur.toList.take (l.map lst).length = (l.map lst).map encStr := by rw [← strs_enc, List.length_map, ← h4, Nat.mul_one]
    have hs := sh_slices_Compact_string g 0 cap (l.map lst) w (holds_of_block hc h4') (by simp; omega) (by simpa using h1)
    rw [List.length_map] at hs
    refine hs.mono ?_
    have hcl := Lib.compact_length_le (l.map lst)
    rw [List.length_map] at hcl
    rintro e w' ⟨rfl, q, rfl⟩
    have hg := grownBy_sorted (w := w) (g := g) (n := q) (os := #[]) (Lib.compact (l.map lst) ++ List.replicate (l.length - (Lib.compact (l.map lst)).length) []).toArray
    have hh := heap_sorted (n := q) (os := #[]) (Lib.compact (l.map lst) ++ List.replicate (l.length - (Lib.compact (l.map lst)).length) []).toArray hc
    rw [grow_empty] at hg hh
    refine ⟨_, rfl, ?_, (Below.refl base w).grown hg hb (by intro k hk; injection hk with hk; omega), hg, rfl⟩
    have hlen : (compL l).length = (Lib.compact (l.map lst)).length := by simp [compL]
    refine ⟨by simp, .inr ⟨g, cap, _, by rw [hlen], hbase, hh, by rw [hlen]; omega, h2, by simp [putCells, h3], ?_⟩⟩
    have ht := take_putCells cur (Lib.compact (l.map lst) ++ List.replicate (l.length - (Lib.compact (l.map lst)).length) []) (by simp; omega)
    have ht2 := congrArg (List.take (Lib.compact (l.map lst)).length) ht
    rw [List.take_take, List.length_append, Nat.min_eq_left (by omega), List.map_append, List.take_append_of_le_length (by simp), List.take_of_length_le (l := List.map encStr _) (by simp), enc_strs] at ht2
    rw [Nat.mul_one, hlen]
    exact ht2
theorem C_cellS {w : World} {A : Option Addr} {n : Nat} {l : List ByteArray} (h : Kd.C Kd.string w A n l) (i : Nat) (hi : i < n) : ∃ ad, A = some ad ∧ w.cell? (ad.add i) = some (.string (l.getD i ByteArray.empty)) := by
  obtain ⟨_, _, h3⟩ := Kd.reads_of_C (d := ByteArray.empty) h
  obtain ⟨ad, e, hc⟩ := h3 (by omega)
  exact ⟨ad, e, hc i hi⟩
set_option maxHeartbeats 2000000 in
theorem clone_own (A0 : Option Addr) (c0 : Nat) (l0 : List ByteArray) (w : World) (hr0 : Kd.C Kd.string w A0 l0.length l0) (hl : l0.length ≤ 8796093022208) :
    Calls Try.prog 37 #[.slice A0 l0.length c0] w fun e w' => ∃ v', e = .returned v' ∧ w'.ownsRow w.heap.size 9 1 v' l0.length (l0.map Value.string) ∧ Below w.heap.size w w' := by
  cases A0 with
  | none =>
    have hl0 : l0.length = 0 := by
      rcases Nat.eq_zero_or_pos l0.length with h0 | h0
      · exact h0
      · obtain ⟨ad, e, _⟩ := C_cellS hr0 0 h0
        cases e
    obtain rfl : l0 = [] := List.eq_nil_of_length_eq_zero hl0
    refine (sh_slices_Clone_string_nil _ _ w).mono ?_
    rintro e w' ⟨rfl, rfl⟩
    exact ⟨_, rfl, ⟨rfl, .inl ⟨rfl, rfl⟩⟩, Below.refl _ _⟩
  | some ad =>
    have hr := (Kd.reads_of_C (d := ByteArray.empty) hr0).2.2
    have A : Aside0 (∀ j u, (l0.map Value.string)[j]? = some u → w.cell? (ad.add j) = some u) := ⟨fun j u hj => by
      rw [List.getElem?_map] at hj
      obtain ⟨x, hx, rfl⟩ := Option.map_eq_some_iff.1 hj
      obtain ⟨hlt, hxe⟩ := List.getElem?_eq_some_iff.1 hx
      obtain ⟨ad', e, hc⟩ := hr (by omega)
      cases e
      have := hc j hlt
      rwa [List.getD_eq_getElem?_getD, hx] at this⟩
    have q24 : ∀ (w : World) (a : Option Addr) (n c n' c' : Nat), (binOp .eql 24 (.slice a n c) (.slice none n' c')).run Try.prog w = .ok (.bool a.isNone) w := fun w a n c n' c' => Lib.run_eql_slice_nil w _ _ a n c n' c' Try.underlying24
    have u24 : ∀ w, Sem.run Try.prog (underlying 24) w = .ok (TypeDesc.slice 9) w := run_underlying Try.underlying24
    have info9 : (Try.prog.info? 9).map (fun i => (i.zero, i.size, i.bytes)) = some (some (.string ⟨#[]⟩), 1, 16) := by kernel_rfl
    obtain ⟨i0, hi, hzz⟩ := Option.map_eq_some_iff.1 info9
    simp only [Prod.mk.injEq] at hzz
    obtain ⟨hz0, hz1, hz2⟩ := hzz
    clear hr hr0 info9
    have HI := Aside0.mk hi
    have HZ0 := Aside0.mk hz0
    have HZ1 := Aside0.mk hz1
    have HZ2 := Aside0.mk hz2
    clear hi hz0 hz1 hz2
    go_enter Try.func37, Try.ntmps37
    go_wp2_with (at_builtin; refine wpList_append_own _ rfl _ _ 24 rfl w.heap.size 9 i0 (.string ⟨#[]⟩) 1 16 Try.underlying24 HI.out HZ0.out HZ1.out HZ2.out rfl (by decide) _ _ _ rfl (World.ownsRow_made w #[] 0 (Nat.le_refl _) (Nat.zero_le _) (by simp)) ad l0.length c0 (l0.map Value.string) rfl ?qc1 ?qc2 ?qc3 ?qc4 ?qc5 ?qc6 ?_)
    case qc1 => simp
    case qc2 =>
      intro j u hj
      exact Lib.cell?_alloc_some _ (A.out j u hj)
    case qc3 =>
      intro u hu
      obtain ⟨x, _, rfl⟩ := List.mem_map.1 hu
      rfl
    case qc4 => rw [Nat.zero_add]; simp only [maxLen]; omega
    case qc5 => rw [Nat.zero_add]; omega
    case qc6 => simp
    intro v' w1 hown hgrow hnil
    go_wp2
    go_ret
    refine ⟨v', rfl, by simpa using hown, ?_⟩
    exact ((Below.refl _ w).alloc (Nat.le_refl _) _).grown hgrow (by simp) (by intro k hk; simp [Value.ownBlock] at hk; omega)

end Go.Proofs.Ytfpedicgeepikaa.G
