import Derived.Test.YtehaonhgbmlmnaaDoorProg
import Derived.Below
import Derived.Deep.Draws
import Derived.Deep.AppendLies
import Derived.Maps.AppendAt
import Derived.OwnWalk
import Derived.Laws.BytesArg
import Derived.Laws.MakeOwn
import Derived.Laws.OwnMore
import Derived.Deep.OwnRows
import Derived.Tactics
import Derived.Lib.ConvBytes
import Derived.Laws.Slices
import Derived.WalkKit
import Derived.KernelRfl
import Derived.RowKit3
import Derived.Deep.LoopGhost
import Derived.Deep.QuietTactic
import Derived.BigQuiet
import Derived.WideLaws
import Derived.Deep.DeepCutAuto
import Derived.Deep.CutBlock
import Derived.Deep.RegionHeld3
import Derived.Laws.Rows
import Derived.Lib.AppendStr
import Derived.ArgAppend
import Derived.Laws.IdiomCopy
import Derived.OrdersHeld
import Derived.Laws.BitsLemmas
import Derived.RowKit
import Derived.Test.YtehaonhgbmlmnaaDoorS2
import Derived.Test.YtehaonhgbmlmnaaDoorWWords
import Derived.Test.YtehaonhgbmlmnaaDoorWLast
import Derived.Test.YtehaonhgbmlmnaaDoorWTab
import Derived.Test.YtehaonhgbmlmnaaDoorWQPut
import Derived.Test.YtehaonhgbmlmnaaDoorWApart
import Derived.Test.YtehaonhgbmlmnaaDoorWArr
import Derived.Test.YtehaonhgbmlmnaaDoorWZeros
import Derived.Test.YtehaonhgbmlmnaaDoorWFoot
import Derived.Test.YtehaonhgbmlmnaaDoorWKept
import Derived.Test.YtehaonhgbmlmnaaDoorWShare
import Derived.Test.YtehaonhgbmlmnaaDoorWN
import Derived.Test.YtehaonhgbmlmnaaDoorWRepsOne
import Derived.Test.YtehaonhgbmlmnaaDoorWGuard
import Derived.Test.YtehaonhgbmlmnaaDoorWNEv
import Derived.Test.YtehaonhgbmlmnaaDoorWMore
import Derived.Test.YtehaonhgbmlmnaaDoorWEqStruct
import Derived.Test.YtehaonhgbmlmnaaDoorWInv
import Derived.Test.YtehaonhgbmlmnaaDoorWInvWords
import Derived.Test.YtehaonhgbmlmnaaDoorS
import Derived.Test.YtehaonhgbmlmnaaDoorPrx0
import Derived.Test.YtehaonhgbmlmnaaDoorPrx8
import Derived.Lib.Hide

namespace Go.Proofs.YtehaonhgbmlmnaaDoor.G
open Go.RowKit Go.Proofs.YtehaonhgbmlmnaaDoorW.PrintWords Go.Proofs.YtehaonhgbmlmnaaDoorW.PrintLast Go.Proofs.YtehaonhgbmlmnaaDoorW.PrintMore
attribute [local go_sem] max2_int min2_int max_two min_two max_three min_three max_four min_four
set_option linter.unusedVariables false
set_option linter.unusedSimpArgs false

/-! ### date.Parse: what its closures do -/
/-- The blocks of a call's own: the reader, the variable that holds it, the moment, the end of the day. -/
structure Gs where
  r : Nat
  p : Nat
  m : Nat
  e : Nat
/-- What they hold. -/
structure St where
  s : ByteArray
  bad : Bool
  y : Int
  mo : Int
  d : Int
  sec : Int
  nano : Int
  fin : Bool
structure Inv (k : Int) (g : Gs) (w0 w : World) (x : St) : Prop where
  r : Pr.IsS48 w0 w g.r x.s x.bad
  p : w.heap[g.p]? = some (.cells #[.pointer (some ⟨g.r, 0, none⟩)] 46 (0, 0))
  m : w.heap[g.m]? = some (.cells #[.int .i64 k, .int .i64 x.y, .int .i64 x.mo, .int .i64 x.d, .int .i64 x.sec, .int .i64 x.nano, .bool false, .int .i64 0] 24 (0, 0))
  e : w.heap[g.e]? = some (.cells #[.bool x.fin] 4 (0, 0))
  gm : w0.heap.size ≤ g.m
  ge : w0.heap.size ≤ g.e
/-- All else is kept. -/
structure Kept4 (g : Gs) (w w' : World) : Prop where
  size : w.heap.size ≤ w'.heap.size
  old : ∀ i, i < w.heap.size → i ≠ g.r → i ≠ g.m → i ≠ g.e → w'.heap[i]? = w.heap[i]?
theorem Kept4.of_but {g : Gs} {w w' : World} (h : KeepBut w w' g.r none) : Kept4 g w w' := ⟨h.1, fun i hi h1 _ _ => h.2 i hi h1 (by simp)⟩
theorem Kept4.trans {g : Gs} {w w1 w2 : World} (h : Kept4 g w w1) (k : Kept4 g w1 w2) : Kept4 g w w2 :=
  ⟨Nat.le_trans h.size k.size, fun i hi h1 h2 h3 => (k.old i (Nat.lt_of_lt_of_le hi h.size) h1 h2 h3).trans (h.old i hi h1 h2 h3)⟩
theorem Kept4.refl (g : Gs) (w : World) : Kept4 g w w := ⟨Nat.le_refl _, fun _ _ _ _ _ => rfl⟩
theorem Kept4.set {g : Gs} {w w1 : World} (h : Kept4 g w w1) {b : Nat} (hb : b = g.r ∨ b = g.m ∨ b = g.e) (j : Nat) (u : Value) : Kept4 g w (w1.setCell ⟨b, j, none⟩ u) :=
  ⟨by simpa [World.setCell] using h.size, fun i hi h1 h2 h3 => (Below.heap_setCell w1 ⟨b, j, none⟩ u i (by rcases hb with rfl | rfl | rfl <;> assumption)).trans (h.old i hi h1 h2 h3)⟩
theorem Kept4.blk {g : Gs} {w w1 : World} (h : Kept4 g w w1) {b : Nat} {o : Obj} (hb : w.heap[b]? = some o) (h1 : b ≠ g.r) (h2 : b ≠ g.m) (h3 : b ≠ g.e) : w1.heap[b]? = some o :=
  (h.old b (blk_lt hb) h1 h2 h3).trans hb
section
variable {k : Int} {g : Gs} {w0 w : World} {x : St}
theorem Inv.ne_mr (h : Inv k g w0 w x) : g.m ≠ g.r := blk_ne h.m h.r.1 (by decide)
theorem Inv.ne_er (h : Inv k g w0 w x) : g.e ≠ g.r := blk_ne h.e h.r.1 (by decide)
theorem Inv.ne_pr (h : Inv k g w0 w x) : g.p ≠ g.r := blk_ne h.p h.r.1 (by decide)
theorem Inv.ne_pm (h : Inv k g w0 w x) : g.p ≠ g.m := blk_ne h.p h.m (by decide)
theorem Inv.ne_pe (h : Inv k g w0 w x) : g.p ≠ g.e := blk_ne h.p h.e (by decide)
theorem Inv.ne_em (h : Inv k g w0 w x) : g.e ≠ g.m := blk_ne h.e h.m (by decide)
/-- Behind a method of the reader. -/
theorem Inv.read (h : Inv k g w0 w x) {w1 : World} {s' : ByteArray} {b' : Bool} (hr : Pr.IsS48 w0 w1 g.r s' b') (hk : KeepBut w w1 g.r none) :
    Inv k g w0 w1 { x with s := s', bad := b' } :=
  ⟨hr, hk.blk h.p h.ne_pr (by simp), hk.blk h.m h.ne_mr (by simp), hk.blk h.e h.ne_er (by simp), h.gm, h.ge⟩
theorem Inv.setY (h : Inv k g w0 w x) (n : Int) : Inv k g w0 (w.setCell ⟨g.m, 1, none⟩ (.int .i64 n)) { x with y := n } :=
  ⟨h.r.far h.ne_mr.symm _, blk_far h.p h.ne_pm _, blk_put h.m 1 _ rfl, blk_far h.e h.ne_em _, h.gm, h.ge⟩
theorem Inv.setMo (h : Inv k g w0 w x) (n : Int) : Inv k g w0 (w.setCell ⟨g.m, 2, none⟩ (.int .i64 n)) { x with mo := n } :=
  ⟨h.r.far h.ne_mr.symm _, blk_far h.p h.ne_pm _, blk_put h.m 2 _ rfl, blk_far h.e h.ne_em _, h.gm, h.ge⟩
theorem Inv.setD (h : Inv k g w0 w x) (n : Int) : Inv k g w0 (w.setCell ⟨g.m, 3, none⟩ (.int .i64 n)) { x with d := n } :=
  ⟨h.r.far h.ne_mr.symm _, blk_far h.p h.ne_pm _, blk_put h.m 3 _ rfl, blk_far h.e h.ne_em _, h.gm, h.ge⟩
theorem Inv.setSec (h : Inv k g w0 w x) (n : Int) : Inv k g w0 (w.setCell ⟨g.m, 4, none⟩ (.int .i64 n)) { x with sec := n } :=
  ⟨h.r.far h.ne_mr.symm _, blk_far h.p h.ne_pm _, blk_put h.m 4 _ rfl, blk_far h.e h.ne_em _, h.gm, h.ge⟩
theorem Inv.setNano (h : Inv k g w0 w x) (n : Int) : Inv k g w0 (w.setCell ⟨g.m, 5, none⟩ (.int .i64 n)) { x with nano := n } :=
  ⟨h.r.far h.ne_mr.symm _, blk_far h.p h.ne_pm _, blk_put h.m 5 _ rfl, blk_far h.e h.ne_em _, h.gm, h.ge⟩
theorem Inv.setFin (h : Inv k g w0 w x) (b : Bool) : Inv k g w0 (w.setCell ⟨g.e, 0, none⟩ (.bool b)) { x with fin := b } :=
  ⟨h.r.far h.ne_er.symm _, blk_far h.p h.ne_pe _, blk_far h.m h.ne_em.symm _, blk_put h.e 0 _ rfl, h.gm, h.ge⟩
end
/-- A closure of date.Parse, and what it does. -/
inductive Fld where
  | year | month | day | clock | dash | sharp
def Fld.val (g : Gs) : Fld → Value
  | .year => .func (.func 18) #[] #[.pointer (some ⟨g.p, 0, none⟩), .pointer (some ⟨g.m, 0, none⟩)]
  | .month => .func (.func 20) #[] #[.pointer (some ⟨g.p, 0, none⟩), .pointer (some ⟨g.m, 0, none⟩)]
  | .day => .func (.func 22) #[] #[.pointer (some ⟨g.p, 0, none⟩), .pointer (some ⟨g.m, 0, none⟩)]
  | .clock => .func (.func 23) #[] #[.pointer (some ⟨g.p, 0, none⟩), .pointer (some ⟨g.m, 0, none⟩), .pointer (some ⟨g.e, 0, none⟩)]
  | .dash => .func (.func 25) #[] #[.pointer (some ⟨g.p, 0, none⟩)]
  | .sharp => .func (.func 27) #[] #[.pointer (some ⟨g.p, 0, none⟩)]
def step (K : Nat) : Fld → St → Option St
  | .year, x => (Pr.date_reader_year.f K x.s x.bad).map fun r => { x with y := r.1, s := r.2.1, bad := r.2.2 }
  | .month, x => (Pr.date_reader_number.f K x.s x.bad 1 12).map fun r => { x with mo := r.1, s := r.2.1, bad := r.2.2 }
  | .day, x => (Pr.date_reader_number.f K x.s x.bad 1 31).map fun r => { x with d := r.1, s := r.2.1, bad := r.2.2 }
  | .clock, x => (Pr.date_reader_clock.f K x.s x.bad).map fun r => { x with sec := r.1, nano := r.2.1, fin := r.2.2.1, s := r.2.2.2.1, bad := r.2.2.2.2 }
  | .dash, x => (Pr.date_reader_want.f K x.s x.bad [45]).map fun r => { x with s := r.1, bad := r.2 }
  | .sharp, x => (Pr.date_reader_want.f K x.s x.bad [84]).map fun r => { x with s := r.1, bad := r.2 }

section
variable (K : Nat) (k : Int) (g : Gs) (x : St) (w0 w : World) (hI : Inv k g w0 w x) (hB : Below w0.heap.size w0 w)
set_option maxHeartbeats 400000 in
theorem cl_year (n : Int) (s' : ByteArray) (b' : Bool) (h : Pr.date_reader_year.f K x.s x.bad = some (n, s', b')) (hI : Inv k g w0 w x) (hB : Below w0.heap.size w0 w) :
    Calls Tryd.prog 18 #[.pointer (some ⟨g.p, 0, none⟩), .pointer (some ⟨g.m, 0, none⟩)] w fun e w' => e = .returned (.tuple #[]) ∧ Inv k g w0 w' { x with y := n, s := s', bad := b' } ∧ Below w0.heap.size w0 w' ∧ Kept4 g w w' := by
  have c1 : w.cell? ⟨g.p, 0, none⟩ = some (.pointer (some ⟨g.r, 0, none⟩)) := (blk_cell hI.p 0).trans rfl
  have HI := Lib.hid hI; have HB := Lib.hid hB; have HH := Lib.hid h; clear hI hB h
  go_enter Tryd.func18, Tryd.ntmps18
  go_wp2_with (go_at_call 19; refine (Pr.date_reader_year.calls K g.r x.s x.bad n s' b' w0 w HI.out.r HB.out HH.out).mono ?_; rintro e w1 ⟨rfl, hr1, hB1, hk1⟩; have hI1 := HI.out.read hr1 hk1; have c2 : w1.cell? ⟨g.m, 1, none⟩ = some (.int .i64 x.y) := (blk_cell hI1.m 1).trans rfl; have c3 := blk_frozen hI1.m 1; have HI1 := Lib.hid hI1; have HB1 := Lib.hid hB1; have HK1 := Lib.hid hk1; clear hI1 hB1 hk1 hr1)
  go_end0
  exact ⟨rfl, HI1.out.setY n, HB1.out.setCell HI1.out.gm _, (Kept4.of_but HK1.out).set (.inr (.inl rfl)) 1 _⟩
set_option maxHeartbeats 400000 in
theorem cl_month (n : Int) (s' : ByteArray) (b' : Bool) (h : Pr.date_reader_number.f K x.s x.bad 1 12 = some (n, s', b')) (hI : Inv k g w0 w x) (hB : Below w0.heap.size w0 w) :
    Calls Tryd.prog 20 #[.pointer (some ⟨g.p, 0, none⟩), .pointer (some ⟨g.m, 0, none⟩)] w fun e w' => e = .returned (.tuple #[]) ∧ Inv k g w0 w' { x with mo := n, s := s', bad := b' } ∧ Below w0.heap.size w0 w' ∧ Kept4 g w w' := by
  have c1 : w.cell? ⟨g.p, 0, none⟩ = some (.pointer (some ⟨g.r, 0, none⟩)) := (blk_cell hI.p 0).trans rfl
  have HI := Lib.hid hI; have HB := Lib.hid hB; have HH := Lib.hid h; clear hI hB h
  go_enter Tryd.func20, Tryd.ntmps20
  go_wp2_with (go_at_call 21; refine (Pr.date_reader_number.calls K g.r x.s x.bad 1 12 n s' b' w0 w HI.out.r HB.out HH.out).mono ?_; rintro e w1 ⟨rfl, hr1, hB1, hk1⟩; have hI1 := HI.out.read hr1 hk1; have c2 : w1.cell? ⟨g.m, 2, none⟩ = some (.int .i64 x.mo) := (blk_cell hI1.m 2).trans rfl; have c3 := blk_frozen hI1.m 2; have HI1 := Lib.hid hI1; have HB1 := Lib.hid hB1; have HK1 := Lib.hid hk1; clear hI1 hB1 hk1 hr1)
  go_end0
  exact ⟨rfl, HI1.out.setMo n, HB1.out.setCell HI1.out.gm _, (Kept4.of_but HK1.out).set (.inr (.inl rfl)) 2 _⟩
set_option maxHeartbeats 400000 in
theorem cl_day (n : Int) (s' : ByteArray) (b' : Bool) (h : Pr.date_reader_number.f K x.s x.bad 1 31 = some (n, s', b')) (hI : Inv k g w0 w x) (hB : Below w0.heap.size w0 w) :
    Calls Tryd.prog 22 #[.pointer (some ⟨g.p, 0, none⟩), .pointer (some ⟨g.m, 0, none⟩)] w fun e w' => e = .returned (.tuple #[]) ∧ Inv k g w0 w' { x with d := n, s := s', bad := b' } ∧ Below w0.heap.size w0 w' ∧ Kept4 g w w' := by
  have c1 : w.cell? ⟨g.p, 0, none⟩ = some (.pointer (some ⟨g.r, 0, none⟩)) := (blk_cell hI.p 0).trans rfl
  have HI := Lib.hid hI; have HB := Lib.hid hB; have HH := Lib.hid h; clear hI hB h
  go_enter Tryd.func22, Tryd.ntmps22
  go_wp2_with (go_at_call 21; refine (Pr.date_reader_number.calls K g.r x.s x.bad 1 31 n s' b' w0 w HI.out.r HB.out HH.out).mono ?_; rintro e w1 ⟨rfl, hr1, hB1, hk1⟩; have hI1 := HI.out.read hr1 hk1; have c2 : w1.cell? ⟨g.m, 3, none⟩ = some (.int .i64 x.d) := (blk_cell hI1.m 3).trans rfl; have c3 := blk_frozen hI1.m 3; have HI1 := Lib.hid hI1; have HB1 := Lib.hid hB1; have HK1 := Lib.hid hk1; clear hI1 hB1 hk1 hr1)
  go_end0
  exact ⟨rfl, HI1.out.setD n, HB1.out.setCell HI1.out.gm _, (Kept4.of_but HK1.out).set (.inr (.inl rfl)) 3 _⟩
set_option maxHeartbeats 400000 in
theorem cl_clock (n o : Int) (f' : Bool) (s' : ByteArray) (b' : Bool) (h : Pr.date_reader_clock.f K x.s x.bad = some (n, o, f', s', b')) (hI : Inv k g w0 w x) (hB : Below w0.heap.size w0 w) :
    Calls Tryd.prog 23 #[.pointer (some ⟨g.p, 0, none⟩), .pointer (some ⟨g.m, 0, none⟩), .pointer (some ⟨g.e, 0, none⟩)] w fun e w' => e = .returned (.tuple #[]) ∧ Inv k g w0 w' { x with sec := n, nano := o, fin := f', s := s', bad := b' } ∧ Below w0.heap.size w0 w' ∧ Kept4 g w w' := by
  have c1 : w.cell? ⟨g.p, 0, none⟩ = some (.pointer (some ⟨g.r, 0, none⟩)) := (blk_cell hI.p 0).trans rfl
  have hne1 := hI.ne_em; have hne2 := hI.ne_em.symm
  have HI := Lib.hid hI; have HB := Lib.hid hB; have HH := Lib.hid h; clear hI hB h
  go_enter Tryd.func23, Tryd.ntmps23
  go_wp2_with (go_at_call 24; refine (Pr.date_reader_clock.calls K g.r x.s x.bad n o f' s' b' w0 w HI.out.r HB.out HH.out).mono ?_; rintro e w1 ⟨rfl, hr1, hB1, hk1⟩; have hI1 := HI.out.read hr1 hk1; have c2 : w1.cell? ⟨g.m, 4, none⟩ = some (.int .i64 x.sec) := (blk_cell hI1.m 4).trans rfl; have c3 := blk_frozen hI1.m 4; have c4 : w1.cell? ⟨g.m, 5, none⟩ = some (.int .i64 x.nano) := (blk_cell hI1.m 5).trans rfl; have c5 := blk_frozen hI1.m 5; have c6 : w1.cell? ⟨g.e, 0, none⟩ = some (.bool x.fin) := (blk_cell hI1.e 0).trans rfl; have c7 := blk_frozen hI1.e 0; have HI1 := Lib.hid hI1; have HB1 := Lib.hid hB1; have HK1 := Lib.hid hk1; clear hI1 hB1 hk1 hr1)
  go_end0
  exact ⟨rfl, ((HI1.out.setSec n).setNano o).setFin f', ((HB1.out.setCell HI1.out.gm _).setCell HI1.out.gm _).setCell HI1.out.ge _, (((Kept4.of_but HK1.out).set (.inr (.inl rfl)) 4 _).set (.inr (.inl rfl)) 5 _).set (.inr (.inr rfl)) 0 _⟩
/-- A row of one byte, just made. -/
theorem one_byte (W : World) (c : Int) : Kd.C (Kd.int .u8) (W.alloc (.cells #[.int .u8 c] 5)) (some ⟨W.heap.size, 0, none⟩) ([c] : List Int).length [c] := by
  refine Kd.C_of_reads (d := 0) ⟨rfl, by simp, fun _ => ⟨_, rfl, fun j hj => ?_⟩⟩
  have h0 : j = 0 := by simp at hj; omega
  subst h0
  have hh : (W.alloc (.cells #[.int .u8 c] 5)).heap[W.heap.size]? = some (.cells #[.int .u8 c] 5 (0, 0)) := by simpa using heap_alloc_new W _
  exact (blk_cell hh 0).trans rfl
set_option maxHeartbeats 400000 in
theorem cl_dash (s' : ByteArray) (b' : Bool) (h : Pr.date_reader_want.f K x.s x.bad [45] = some (s', b')) (hI : Inv k g w0 w x) (hB : Below w0.heap.size w0 w) :
    Calls Tryd.prog 25 #[.pointer (some ⟨g.p, 0, none⟩)] w fun e w' => e = .returned (.tuple #[]) ∧ Inv k g w0 w' { x with s := s', bad := b' } ∧ Below w0.heap.size w0 w' ∧ Kept4 g w w' := by
  have c1 : w.cell? ⟨g.p, 0, none⟩ = some (.pointer (some ⟨g.r, 0, none⟩)) := (blk_cell hI.p 0).trans rfl
  have hl := blk_lt hI.r.1
  have HI := Lib.hid hI; have HB := Lib.hid hB; have HH := Lib.hid h; have HL := Lib.hid hl; clear hI hB h hl
  go_enter Tryd.func25, Tryd.ntmps25
  go_wp2_with (go_at_call 26; refine (Pr.date_reader_want.calls K g.r x.s x.bad (some ⟨w.heap.size, 0, none⟩) 1 [45] s' b' w0 _ (HI.out.r.alloc _) (below_alloc HB.out _) (one_byte w 45) (by decide) (by rintro ad ⟨rfl⟩ _; have := HL.out; show w.heap.size ≠ g.r; omega) HH.out).mono ?_; rintro e w1 ⟨rfl, hr1, hB1, hk1⟩; have hk2 : KeepBut w w1 g.r none := (keep_alloc (KeepBut.refl w g.r none) _).trans hk1 (.inl rfl); have hI1 := HI.out.read hr1 hk2; have HI1 := Lib.hid hI1; have HB1 := Lib.hid hB1; have HK1 := Lib.hid hk2; clear hI1 hB1 hk1 hk2 hr1)
  go_end0
  exact ⟨rfl, HI1.out, HB1.out, Kept4.of_but HK1.out⟩
set_option maxHeartbeats 400000 in
theorem cl_sharp (s' : ByteArray) (b' : Bool) (h : Pr.date_reader_want.f K x.s x.bad [84] = some (s', b')) (hI : Inv k g w0 w x) (hB : Below w0.heap.size w0 w) :
    Calls Tryd.prog 27 #[.pointer (some ⟨g.p, 0, none⟩)] w fun e w' => e = .returned (.tuple #[]) ∧ Inv k g w0 w' { x with s := s', bad := b' } ∧ Below w0.heap.size w0 w' ∧ Kept4 g w w' := by
  have c1 : w.cell? ⟨g.p, 0, none⟩ = some (.pointer (some ⟨g.r, 0, none⟩)) := (blk_cell hI.p 0).trans rfl
  have hl := blk_lt hI.r.1
  have HI := Lib.hid hI; have HB := Lib.hid hB; have HH := Lib.hid h; have HL := Lib.hid hl; clear hI hB h hl
  go_enter Tryd.func27, Tryd.ntmps27
  go_wp2_with (go_at_call 26; refine (Pr.date_reader_want.calls K g.r x.s x.bad (some ⟨w.heap.size, 0, none⟩) 1 [84] s' b' w0 _ (HI.out.r.alloc _) (below_alloc HB.out _) (one_byte w 84) (by decide) (by rintro ad ⟨rfl⟩ _; have := HL.out; show w.heap.size ≠ g.r; omega) HH.out).mono ?_; rintro e w1 ⟨rfl, hr1, hB1, hk1⟩; have hk2 : KeepBut w w1 g.r none := (keep_alloc (KeepBut.refl w g.r none) _).trans hk1 (.inl rfl); have hI1 := HI.out.read hr1 hk2; have HI1 := Lib.hid hI1; have HB1 := Lib.hid hB1; have HK1 := Lib.hid hk2; clear hI1 hB1 hk1 hk2 hr1)
  go_end0
  exact ⟨rfl, HI1.out, HB1.out, Kept4.of_but HK1.out⟩
/-- Whichever closure: it does its step. -/
def Fld.fn : Fld → Nat
  | .year => 18 | .month => 20 | .day => 22 | .clock => 23 | .dash => 25 | .sharp => 27
end

end Go.Proofs.YtehaonhgbmlmnaaDoor.G
