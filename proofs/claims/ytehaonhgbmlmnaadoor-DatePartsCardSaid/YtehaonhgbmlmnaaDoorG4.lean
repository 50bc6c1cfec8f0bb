import Derived.Test.YtehaonhgbmlmnaaDoorProg
import Derived.Below
import Derived.Deep.Draws
import Derived.Deep.AppendLies
import Derived.Maps.AppendAt
import Derived.OwnWalk
import Derived.Laws.BytesArg
import Derived.Laws.MakeOwn
import Derived.Laws.OwnMore
import Derived.Deep.OwnRows
import Derived.Tactics
import Derived.Lib.ConvBytes
import Derived.Laws.Slices
import Derived.WalkKit
import Derived.KernelRfl
import Derived.RowKit3
import Derived.Deep.LoopGhost
import Derived.Deep.QuietTactic
import Derived.BigQuiet
import Derived.WideLaws
import Derived.Deep.DeepCutAuto
import Derived.Deep.CutBlock
import Derived.Deep.RegionHeld3
import Derived.Laws.Rows
import Derived.Lib.AppendStr
import Derived.ArgAppend
import Derived.Laws.IdiomCopy
import Derived.OrdersHeld
import Derived.Laws.BitsLemmas
import Derived.RowKit
import Derived.Test.YtehaonhgbmlmnaaDoorS2
import Derived.Test.YtehaonhgbmlmnaaDoorWWords
import Derived.Test.YtehaonhgbmlmnaaDoorWLast
import Derived.Test.YtehaonhgbmlmnaaDoorWTab
import Derived.Test.YtehaonhgbmlmnaaDoorWQPut
import Derived.Test.YtehaonhgbmlmnaaDoorWApart
import Derived.Test.YtehaonhgbmlmnaaDoorWArr
import Derived.Test.YtehaonhgbmlmnaaDoorWZeros
import Derived.Test.YtehaonhgbmlmnaaDoorWFoot
import Derived.Test.YtehaonhgbmlmnaaDoorWKept
import Derived.Test.YtehaonhgbmlmnaaDoorWShare
import Derived.Test.YtehaonhgbmlmnaaDoorWN
import Derived.Test.YtehaonhgbmlmnaaDoorWRepsOne
import Derived.Test.YtehaonhgbmlmnaaDoorWGuard
import Derived.Test.YtehaonhgbmlmnaaDoorWNEv
import Derived.Test.YtehaonhgbmlmnaaDoorWMore
import Derived.Test.YtehaonhgbmlmnaaDoorWEqStruct
import Derived.Test.YtehaonhgbmlmnaaDoorWInv
import Derived.Test.YtehaonhgbmlmnaaDoorWInvWords
import Derived.Test.YtehaonhgbmlmnaaDoorG1
import Derived.Test.YtehaonhgbmlmnaaDoorG2

namespace Go.Proofs.YtehaonhgbmlmnaaDoor.G
open Go.RowKit Go.Proofs.YtehaonhgbmlmnaaDoorW.PrintWords Go.Proofs.YtehaonhgbmlmnaaDoorW.PrintLast Go.Proofs.YtehaonhgbmlmnaaDoorW.PrintMore
attribute [local go_sem] max2_int min2_int max_two min_two max_three min_three max_four min_four
set_option linter.unusedVariables false
set_option linter.unusedSimpArgs false

/-! ### date.ParseSpan's closures -/
structure Sp where
  s : ByteArray
  bad : Bool
  mo : Int
  sec : Int
  nano : Int
  found : Bool
structure Inv2 (g : Gs) (w0 w : World) (x : Sp) : Prop where
  r : Pr.IsS48 w0 w g.r x.s x.bad
  p : w.heap[g.p]? = some (.cells #[.pointer (some ⟨g.r, 0, none⟩)] 46 (0, 0))
  m : w.heap[g.m]? = some (.cells #[.int .i64 x.mo, .int .i64 x.sec, .int .i64 x.nano] 34 (0, 0))
  e : w.heap[g.e]? = some (.cells #[.bool x.found] 4 (0, 0))
  gm : w0.heap.size ≤ g.m
  ge : w0.heap.size ≤ g.e
section
variable {g : Gs} {w0 w : World} {x : Sp}
theorem Inv2.ne_mr (h : Inv2 g w0 w x) : g.m ≠ g.r := blk_ne h.m h.r.1 (by decide)
theorem Inv2.ne_er (h : Inv2 g w0 w x) : g.e ≠ g.r := blk_ne h.e h.r.1 (by decide)
theorem Inv2.ne_pr (h : Inv2 g w0 w x) : g.p ≠ g.r := blk_ne h.p h.r.1 (by decide)
theorem Inv2.ne_pm (h : Inv2 g w0 w x) : g.p ≠ g.m := blk_ne h.p h.m (by decide)
theorem Inv2.ne_pe (h : Inv2 g w0 w x) : g.p ≠ g.e := blk_ne h.p h.e (by decide)
theorem Inv2.ne_em (h : Inv2 g w0 w x) : g.e ≠ g.m := blk_ne h.e h.m (by decide)
theorem Inv2.read (h : Inv2 g w0 w x) {w1 : World} {s' : ByteArray} {b' : Bool} (hr : Pr.IsS48 w0 w1 g.r s' b') (hk : KeepBut w w1 g.r none) :
    Inv2 g w0 w1 { x with s := s', bad := b' } :=
  ⟨hr, hk.blk h.p h.ne_pr (by simp), hk.blk h.m h.ne_mr (by simp), hk.blk h.e h.ne_er (by simp), h.gm, h.ge⟩
theorem Inv2.below (h : Inv2 g w0 w x) {w1 : World} (hb : Below w.heap.size w w1) : Inv2 g w0 w1 x :=
  ⟨h.r.below hb, blk_below h.p hb, blk_below h.m hb, blk_below h.e hb, h.gm, h.ge⟩
theorem Inv2.alloc (h : Inv2 g w0 w x) (o : Obj) : Inv2 g w0 (w.alloc o) x := h.below (below_alloc (Below.refl _ _) o)
theorem Inv2.drewN (h : Inv2 g w0 w x) (n : Nat) : Inv2 g w0 (w.drewN n) x := ⟨h.r, h.p, h.m, h.e, h.gm, h.ge⟩
theorem Inv2.drew (h : Inv2 g w0 w x) : Inv2 g w0 w.drew x := ⟨h.r, h.p, h.m, h.e, h.gm, h.ge⟩
theorem Inv2.setMo (h : Inv2 g w0 w x) (n : Int) : Inv2 g w0 (w.setCell ⟨g.m, 0, none⟩ (.int .i64 n)) { x with mo := n } :=
  ⟨h.r.far h.ne_mr.symm _, blk_far h.p h.ne_pm _, blk_put h.m 0 _ rfl, blk_far h.e h.ne_em _, h.gm, h.ge⟩
theorem Inv2.setSec (h : Inv2 g w0 w x) (n : Int) : Inv2 g w0 (w.setCell ⟨g.m, 1, none⟩ (.int .i64 n)) { x with sec := n } :=
  ⟨h.r.far h.ne_mr.symm _, blk_far h.p h.ne_pm _, blk_put h.m 1 _ rfl, blk_far h.e h.ne_em _, h.gm, h.ge⟩
theorem Inv2.setNano (h : Inv2 g w0 w x) (n : Int) : Inv2 g w0 (w.setCell ⟨g.m, 2, none⟩ (.int .i64 n)) { x with nano := n } :=
  ⟨h.r.far h.ne_mr.symm _, blk_far h.p h.ne_pm _, blk_put h.m 2 _ rfl, blk_far h.e h.ne_em _, h.gm, h.ge⟩
theorem Inv2.setFound (h : Inv2 g w0 w x) (b : Bool) : Inv2 g w0 (w.setCell ⟨g.e, 0, none⟩ (.bool b)) { x with found := b } :=
  ⟨h.r.far h.ne_er.symm _, blk_far h.p h.ne_pe _, blk_far h.m h.ne_em.symm _, blk_put h.e 0 _ rfl, h.gm, h.ge⟩
theorem Inv2.setS (h : Inv2 g w0 w x) (s : ByteArray) : Inv2 g w0 (w.setCell ⟨g.r, 0, none⟩ (.string s)) { x with s := s } :=
  ⟨h.r.set_0 s, blk_far h.p h.ne_pr _, blk_far h.m h.ne_mr _, blk_far h.e h.ne_er _, h.gm, h.ge⟩
theorem Inv2.setBad (h : Inv2 g w0 w x) (b : Bool) : Inv2 g w0 (w.setCell ⟨g.r, 1, none⟩ (.bool b)) { x with bad := b } :=
  ⟨h.r.set_1 b, blk_far h.p h.ne_pr _, blk_far h.m h.ne_mr _, blk_far h.e h.ne_er _, h.gm, h.ge⟩
end
theorem Kept4.of_below {g : Gs} {w w' : World} (h : Below w.heap.size w w') : Kept4 g w w' := ⟨h.size, fun i hi _ _ _ => h.block i hi⟩
theorem Kept4.drewN {g : Gs} {w w' : World} (h : Kept4 g w w') (n : Nat) : Kept4 g w (w'.drewN n) := ⟨h.size, h.old⟩
theorem Kept4.drew {g : Gs} {w w' : World} (h : Kept4 g w w') : Kept4 g w w'.drew := ⟨h.size, h.old⟩
/-- What a part's number is put to. -/
inductive Put where
  | y | mo | d | h | mi
def Put.val (g : Gs) : Put → Value
  | .y => .func (.func 42) #[] #[.pointer (some ⟨g.m, 0, none⟩)]
  | .mo => .func (.func 43) #[] #[.pointer (some ⟨g.m, 0, none⟩)]
  | .d => .func (.func 44) #[] #[.pointer (some ⟨g.m, 0, none⟩)]
  | .h => .func (.func 45) #[] #[.pointer (some ⟨g.m, 0, none⟩)]
  | .mi => .func (.func 46) #[] #[.pointer (some ⟨g.m, 0, none⟩)]
def Put.put : Put → Int → Sp → Sp
  | .y, n, x => { x with mo := wrap64 (x.mo + wrap64 (12 * n)) }
  | .mo, n, x => { x with mo := wrap64 (x.mo + n) }
  | .d, n, x => { x with sec := wrap64 (x.sec + wrap64 (86400 * n)) }
  | .h, n, x => { x with sec := wrap64 (x.sec + wrap64 (3600 * n)) }
  | .mi, n, x => { x with sec := wrap64 (x.sec + wrap64 (60 * n)) }
theorem put_y (n : Int) (g : Gs) (x : Sp) (w0 w : World) (hI : Inv2 g w0 w x) (hB : Below w0.heap.size w0 w) :
    Calls Tryd.prog 42 #[.int .i64 n, .pointer (some ⟨g.m, 0, none⟩)] w fun e w' => e = .returned (.tuple #[]) ∧ Inv2 g w0 w' (Put.put .y n x) ∧ Below w0.heap.size w0 w' ∧ Kept4 g w w' := by
  have c1 : w.cell? ⟨g.m, 0, none⟩ = some (.int .i64 x.mo) := (blk_cell hI.m 0).trans rfl
  have c2 := blk_frozen hI.m 0
  have HI := Lib.hid hI; have HB := Lib.hid hB; clear hI hB
  go_enter Tryd.func42, Tryd.ntmps42
  go_wp2
  go_end0
  exact ⟨rfl, HI.out.setMo _, HB.out.setCell HI.out.gm _, (Kept4.refl g w).set (.inr (.inl rfl)) 0 _⟩
theorem put_mo (n : Int) (g : Gs) (x : Sp) (w0 w : World) (hI : Inv2 g w0 w x) (hB : Below w0.heap.size w0 w) :
    Calls Tryd.prog 43 #[.int .i64 n, .pointer (some ⟨g.m, 0, none⟩)] w fun e w' => e = .returned (.tuple #[]) ∧ Inv2 g w0 w' (Put.put .mo n x) ∧ Below w0.heap.size w0 w' ∧ Kept4 g w w' := by
  have c1 : w.cell? ⟨g.m, 0, none⟩ = some (.int .i64 x.mo) := (blk_cell hI.m 0).trans rfl
  have c2 := blk_frozen hI.m 0
  have HI := Lib.hid hI; have HB := Lib.hid hB; clear hI hB
  go_enter Tryd.func43, Tryd.ntmps43
  go_wp2
  go_end0
  exact ⟨rfl, HI.out.setMo _, HB.out.setCell HI.out.gm _, (Kept4.refl g w).set (.inr (.inl rfl)) 0 _⟩
theorem put_d (n : Int) (g : Gs) (x : Sp) (w0 w : World) (hI : Inv2 g w0 w x) (hB : Below w0.heap.size w0 w) :
    Calls Tryd.prog 44 #[.int .i64 n, .pointer (some ⟨g.m, 0, none⟩)] w fun e w' => e = .returned (.tuple #[]) ∧ Inv2 g w0 w' (Put.put .d n x) ∧ Below w0.heap.size w0 w' ∧ Kept4 g w w' := by
  have c1 : w.cell? ⟨g.m, 1, none⟩ = some (.int .i64 x.sec) := (blk_cell hI.m 1).trans rfl
  have c2 := blk_frozen hI.m 1
  have HI := Lib.hid hI; have HB := Lib.hid hB; clear hI hB
  go_enter Tryd.func44, Tryd.ntmps44
  go_wp2
  go_end0
  exact ⟨rfl, HI.out.setSec _, HB.out.setCell HI.out.gm _, (Kept4.refl g w).set (.inr (.inl rfl)) 1 _⟩
theorem put_h (n : Int) (g : Gs) (x : Sp) (w0 w : World) (hI : Inv2 g w0 w x) (hB : Below w0.heap.size w0 w) :
    Calls Tryd.prog 45 #[.int .i64 n, .pointer (some ⟨g.m, 0, none⟩)] w fun e w' => e = .returned (.tuple #[]) ∧ Inv2 g w0 w' (Put.put .h n x) ∧ Below w0.heap.size w0 w' ∧ Kept4 g w w' := by
  have c1 : w.cell? ⟨g.m, 1, none⟩ = some (.int .i64 x.sec) := (blk_cell hI.m 1).trans rfl
  have c2 := blk_frozen hI.m 1
  have HI := Lib.hid hI; have HB := Lib.hid hB; clear hI hB
  go_enter Tryd.func45, Tryd.ntmps45
  go_wp2
  go_end0
  exact ⟨rfl, HI.out.setSec _, HB.out.setCell HI.out.gm _, (Kept4.refl g w).set (.inr (.inl rfl)) 1 _⟩
theorem put_mi (n : Int) (g : Gs) (x : Sp) (w0 w : World) (hI : Inv2 g w0 w x) (hB : Below w0.heap.size w0 w) :
    Calls Tryd.prog 46 #[.int .i64 n, .pointer (some ⟨g.m, 0, none⟩)] w fun e w' => e = .returned (.tuple #[]) ∧ Inv2 g w0 w' (Put.put .mi n x) ∧ Below w0.heap.size w0 w' ∧ Kept4 g w w' := by
  have c1 : w.cell? ⟨g.m, 1, none⟩ = some (.int .i64 x.sec) := (blk_cell hI.m 1).trans rfl
  have c2 := blk_frozen hI.m 1
  have HI := Lib.hid hI; have HB := Lib.hid hB; clear hI hB
  go_enter Tryd.func46, Tryd.ntmps46
  go_wp2
  go_end0
  exact ⟨rfl, HI.out.setSec _, HB.out.setCell HI.out.gm _, (Kept4.refl g w).set (.inr (.inl rfl)) 1 _⟩
/-! #### the leading digits -/
def isD (b : UInt8) : Bool := 48 ≤ b && b ≤ 57
def lead (l : List UInt8) : Nat := (l.takeWhile isD).length
theorem lead_le (l : List UInt8) : lead l ≤ l.length := (List.takeWhile_prefix isD).length_le
theorem lead_at : ∀ (l : List UInt8) (j : Nat) (h : j < lead l) (h' : j < l.length), isD l[j] = true
  | [], j, h, h' => absurd h' (Nat.not_lt_zero _)
  | b :: l, j, h, h' => by
    unfold lead at h
    rw [List.takeWhile_cons] at h
    by_cases hb : isD b = true
    · rw [if_pos hb] at h
      cases j with
      | zero => exact hb
      | succ j => exact lead_at l j (by simpa [lead] using h) _
    · rw [if_neg hb] at h; simp at h
theorem lead_end : ∀ (l : List UInt8) (h : lead l < l.length), isD l[lead l] = false
  | [], h => absurd h (Nat.not_lt_zero _)
  | b :: l, h => by
    by_cases hb : isD b = true
    · have e : lead (b :: l) = lead l + 1 := by unfold lead; rw [List.takeWhile_cons, if_pos hb]; rfl
      simp only [e]
      rw [e] at h
      exact lead_end l (by simpa using h)
    · have e : lead (b :: l) = 0 := by unfold lead; rw [List.takeWhile_cons, if_neg hb]; rfl
      simp only [e]
      simpa using hb
theorem isD_iff (b : UInt8) : isD b = true ↔ 48 ≤ (b.toNat : Int) ∧ (b.toNat : Int) ≤ 57 := by
  unfold isD; simp [UInt8.le_iff_toNat_le]; omega
/-! #### a part -/
def partF (c : Int) (p : Put) (x : Sp) : Option Sp :=
  if h : lead x.s.data.toList < x.s.size then
    if lead x.s.data.toList = 0 then some x else if 9 < lead x.s.data.toList then some x else
    if (x.s[lead x.s.data.toList].toNat : Int) = c then (strconv_Atoi.f (x.s.extract 0 (lead x.s.data.toList))).bind fun v => some (p.put v.1 { x with s := x.s.extract (lead x.s.data.toList + 1) x.s.size, found := true })
    else some x
  else some x
set_option maxRecDepth 100000 in
set_option maxHeartbeats 4000000 in
theorem part_walk (c : Int) (p : Put) (g : Gs) (x x' : Sp) (w0 w : World) (hI : Inv2 g w0 w x) (hB : Below w0.heap.size w0 w) (hs : x.s.size ≤ 9223372036854775806) (h : partF c p x = some x') :
    Calls Tryd.prog 40 #[.int .u8 c, Put.val g p, .pointer (some ⟨g.p, 0, none⟩), .pointer (some ⟨g.e, 0, none⟩)] w fun e w' => e = .returned (.tuple #[]) ∧ Inv2 g w0 w' x' ∧ Below w0.heap.size w0 w' ∧ Kept4 g w w' := by
  have c1 : w.cell? ⟨g.p, 0, none⟩ = some (.pointer (some ⟨g.r, 0, none⟩)) := (blk_cell hI.p 0).trans rfl
  have c2 : w.cell? ⟨g.r, 0, none⟩ = some (.string x.s) := (blk_cell hI.r.1 0).trans rfl
  have HI := Lib.hid hI; have HB := Lib.hid hB; clear hI hB
  have hle : lead x.s.data.toList ≤ x.s.size := by have := lead_le x.s.data.toList; simpa using this
  unfold partF at h
  have hat : ∀ j (h' : j < x.s.size), j < lead x.s.data.toList → 48 ≤ (x.s[j].toNat : Int) ∧ (x.s[j].toNat : Int) ≤ 57 := fun j h' hj => (isD_iff _).mp (lead_at x.s.data.toList j hj (by simpa using h'))
  have hend : ∀ (h' : lead x.s.data.toList < x.s.size), ¬ (48 ≤ (x.s[lead x.s.data.toList].toNat : Int) ∧ (x.s[lead x.s.data.toList].toNat : Int) ≤ 57) := fun h' hh => by
    have e := lead_end x.s.data.toList (by simpa using h')
    have := (isD_iff _).mpr hh
    exact Bool.false_ne_true (e.symm.trans this)
  generalize lead x.s.data.toList = n at h hle hat hend
  have HAT := Lib.hid hat; have HEND := Lib.hid hend; have HH := Lib.hid h; clear hat hend h
  go_enter Tryd.func40, Tryd.ntmps40
  go_wp2
  go_loop [6] (fun i => ∃ j : Nat, j ≤ n ∧ i = .int .i64 j) (fun i => n - (intOf i).toNat)
  case atStart => exact ⟨0, Nat.zero_le _, rfl⟩
  case round =>
    obtain ⟨j, hj, rfl⟩ := hrel
    by_cases hlt : j < n
    · have hlt2 : j < x.s.size := by omega
      have hd := HAT.out j hlt2 hlt
      have d1 : decide (48 ≤ (x.s[j].toNat : Int)) = true := by simpa using hd.1
      have d2 : decide ((x.s[j].toNat : Int) ≤ 57) = true := by simpa using hd.2
      clear hd
      go_wp2
      go_round
      case rel => exact ⟨j + 1, by omega, by go_num⟩
      case measure => simp [intOf]; omega
    · obtain rfl : j = n := by omega
      clear hlt hj
      by_cases hlt : j < x.s.size
      · have hd := HEND.out hlt
        have hh := HH.out
        rw [dif_pos hlt] at hh
        by_cases h0 : j = 0
        · rw [if_pos h0] at hh
          cases hh
          have e0 : ((j : Int) == 0) = true := by simpa using h0
          have e0' : (j == 0) = true := by simpa using h0
          clear h0 hle
          have hcase : (x.s[j].toNat : Int) < 48 ∨ (48 ≤ (x.s[j].toNat : Int) ∧ 57 < (x.s[j].toNat : Int)) := by omega
          clear hd
          rcases hcase with h1 | ⟨h1, h2⟩
          all_goals
            go_wp2
            exact bodyPost_ret (v := .tuple #[]) (by simp [results, Tryd.results40, go_sem]) rfl ⟨rfl, HI.out, HB.out, Kept4.refl g w⟩
        rw [if_neg h0] at hh
        have e0 : ((j : Int) == 0) = false := by simpa using h0
        have e0' : (j == 0) = false := by simpa using h0
        have hcase : (x.s[j].toNat : Int) < 48 ∨ (48 ≤ (x.s[j].toNat : Int) ∧ 57 < (x.s[j].toNat : Int)) := by omega
        by_cases h9 : 9 < j
        · rw [if_pos h9] at hh
          cases hh
          have e9 : decide (9 < (j : Int)) = true := decide_eq_true (by omega)
          clear h0 hle hd h9
          rcases hcase with h1 | ⟨h1, h2⟩
          all_goals
            go_wp2
            exact bodyPost_ret (v := .tuple #[]) (by simp [results, Tryd.results40, go_sem]) rfl ⟨rfl, HI.out, HB.out, Kept4.refl g w⟩
        rw [if_neg h9] at hh
        have e9 : decide (9 < (j : Int)) = false := decide_eq_false (by omega)
        have el : ((j : Int) == (x.s.size : Int)) = false := beq_eq_false_iff_ne.mpr (by omega)
        by_cases hc : (x.s[j].toNat : Int) = c
        · rw [if_pos hc] at hh
          obtain ⟨v, hv, hh⟩ := Option.bind_eq_some_iff.mp hh
          obtain ⟨v1, v2⟩ := v
          have HV := Lib.hid hv
          cases hh
          have ec : ((x.s[j].toNat : Int) == c) = true := beq_iff_eq.mpr hc
          clear hv hc hd
          rcases hcase with h1 | ⟨h1, h2⟩
          all_goals
            go_wp2_with (go_at_call 41; refine (strconv_Atoi.calls (x.s.extract 0 j) v1 v2 w HV.out).mono ?_; rintro e w1 ⟨rfl, hb1⟩; have hI1 := HI.out.below hb1; have hB1 := below_step HB.out hb1; have k1 : w1.cell? ⟨g.p, 0, none⟩ = some (.pointer (some ⟨g.r, 0, none⟩)) := (blk_cell hI1.p 0).trans rfl; have k2 : w1.cell? ⟨g.r, 0, none⟩ = some (.string x.s) := (blk_cell hI1.r.1 0).trans rfl; have k3 := blk_frozen hI1.r.1 0; have k4 : w1.cell? ⟨g.e, 0, none⟩ = some (.bool x.found) := (blk_cell hI1.e 0).trans rfl; have k5 := blk_frozen hI1.e 0; have k6 := hI1.ne_er; have k7 := hI1.ne_er.symm; have HI1 := Lib.hid hI1; have HB1 := Lib.hid hB1; have HK1 := Lib.hid (Kept4.of_below (g := g) hb1); clear hI1 hB1 hb1)
            go_region
            clear HAT HEND HH hh HV HI HB
            cases p
            · simp only [Put.val]
              go_wp2_with (go_at_call 42; refine (put_y v1 g _ w0 _ (by exact ((HI1.out.setS (x.s.extract (j + 1) x.s.size)).setFound true).drew) (by repeat (first | exact HB1.out | apply below_drew1 | refine below_set ?_ HI1.out.r.2 | refine below_set ?_ HI1.out.ge))).mono ?_; rintro e w2 ⟨rfl, hI2, hB2, hK2⟩; have HI2 := Lib.hid hI2; have HB2 := Lib.hid hB2; have HK2 := Lib.hid hK2; clear hI2 hB2 hK2)
              go_end0
              exact ⟨rfl, HI2.out, HB2.out, Kept4.trans (by exact (((HK1.out.set (.inl rfl) 0 _).set (.inr (.inr rfl)) 0 _)).drew) HK2.out⟩
            · simp only [Put.val]
              go_wp2_with (go_at_call 43; refine (put_mo v1 g _ w0 _ (by exact ((HI1.out.setS (x.s.extract (j + 1) x.s.size)).setFound true).drew) (by repeat (first | exact HB1.out | apply below_drew1 | refine below_set ?_ HI1.out.r.2 | refine below_set ?_ HI1.out.ge))).mono ?_; rintro e w2 ⟨rfl, hI2, hB2, hK2⟩; have HI2 := Lib.hid hI2; have HB2 := Lib.hid hB2; have HK2 := Lib.hid hK2; clear hI2 hB2 hK2)
              go_end0
              exact ⟨rfl, HI2.out, HB2.out, Kept4.trans (by exact (((HK1.out.set (.inl rfl) 0 _).set (.inr (.inr rfl)) 0 _)).drew) HK2.out⟩
            · simp only [Put.val]
              go_wp2_with (go_at_call 44; refine (put_d v1 g _ w0 _ (by exact ((HI1.out.setS (x.s.extract (j + 1) x.s.size)).setFound true).drew) (by repeat (first | exact HB1.out | apply below_drew1 | refine below_set ?_ HI1.out.r.2 | refine below_set ?_ HI1.out.ge))).mono ?_; rintro e w2 ⟨rfl, hI2, hB2, hK2⟩; have HI2 := Lib.hid hI2; have HB2 := Lib.hid hB2; have HK2 := Lib.hid hK2; clear hI2 hB2 hK2)
              go_end0
              exact ⟨rfl, HI2.out, HB2.out, Kept4.trans (by exact (((HK1.out.set (.inl rfl) 0 _).set (.inr (.inr rfl)) 0 _)).drew) HK2.out⟩
            · simp only [Put.val]
              go_wp2_with (go_at_call 45; refine (put_h v1 g _ w0 _ (by exact ((HI1.out.setS (x.s.extract (j + 1) x.s.size)).setFound true).drew) (by repeat (first | exact HB1.out | apply below_drew1 | refine below_set ?_ HI1.out.r.2 | refine below_set ?_ HI1.out.ge))).mono ?_; rintro e w2 ⟨rfl, hI2, hB2, hK2⟩; have HI2 := Lib.hid hI2; have HB2 := Lib.hid hB2; have HK2 := Lib.hid hK2; clear hI2 hB2 hK2)
              go_end0
              exact ⟨rfl, HI2.out, HB2.out, Kept4.trans (by exact (((HK1.out.set (.inl rfl) 0 _).set (.inr (.inr rfl)) 0 _)).drew) HK2.out⟩
            · simp only [Put.val]
              go_wp2_with (go_at_call 46; refine (put_mi v1 g _ w0 _ (by exact ((HI1.out.setS (x.s.extract (j + 1) x.s.size)).setFound true).drew) (by repeat (first | exact HB1.out | apply below_drew1 | refine below_set ?_ HI1.out.r.2 | refine below_set ?_ HI1.out.ge))).mono ?_; rintro e w2 ⟨rfl, hI2, hB2, hK2⟩; have HI2 := Lib.hid hI2; have HB2 := Lib.hid hB2; have HK2 := Lib.hid hK2; clear hI2 hB2 hK2)
              go_end0
              exact ⟨rfl, HI2.out, HB2.out, Kept4.trans (by exact (((HK1.out.set (.inl rfl) 0 _).set (.inr (.inr rfl)) 0 _)).drew) HK2.out⟩
        · rw [if_neg hc] at hh
          cases hh
          have ec : ((x.s[j].toNat : Int) == c) = false := beq_eq_false_iff_ne.mpr hc
          clear hc hd
          rcases hcase with h1 | ⟨h1, h2⟩
          all_goals
            go_wp2
            go_end0
            exact ⟨rfl, HI.out, HB.out, Kept4.refl g w⟩
      · have hh := HH.out
        rw [dif_neg hlt] at hh
        cases hh
        obtain rfl : j = x.s.size := by omega
        by_cases h0 : x.s.size = 0
        · have e0 : ((x.s.size : Int) == 0) = true := by simpa using h0
          clear hlt hle
          go_wp2
          exact bodyPost_ret (v := .tuple #[]) (by simp [results, Tryd.results40, go_sem]) rfl ⟨rfl, HI.out, HB.out, Kept4.refl g w⟩
        have e0 : ((x.s.size : Int) == 0) = false := by simpa using h0
        by_cases h9 : 9 < x.s.size
        · have e9 : decide (9 < (x.s.size : Int)) = true := decide_eq_true (by omega)
          clear hlt hle h0 h9
          go_wp2
          exact bodyPost_ret (v := .tuple #[]) (by simp [results, Tryd.results40, go_sem]) rfl ⟨rfl, HI.out, HB.out, Kept4.refl g w⟩
        · have e9 : decide (9 < (x.s.size : Int)) = false := decide_eq_false (by omega)
          have el : ((x.s.size : Int) == (x.s.size : Int)) = true := by simp
          clear hlt hle h0
          go_wp2
          exact bodyPost_ret (v := .tuple #[]) (by simp [results, Tryd.results40, go_sem]) rfl ⟨rfl, HI.out, HB.out, Kept4.refl g w⟩

end Go.Proofs.YtehaonhgbmlmnaaDoor.G
