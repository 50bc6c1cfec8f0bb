import Derived.Test.YtehaonhgbmlmnaaDoorProg
import Derived.Below
import Derived.Deep.Draws
import Derived.Deep.AppendLies
import Derived.Maps.AppendAt
import Derived.OwnWalk
import Derived.Laws.BytesArg
import Derived.Laws.MakeOwn
import Derived.Laws.OwnMore
import Derived.Deep.OwnRows
import Derived.Tactics
import Derived.Lib.ConvBytes
import Derived.Laws.Slices
import Derived.WalkKit
import Derived.KernelRfl
import Derived.RowKit3
import Derived.Deep.LoopGhost
import Derived.Deep.QuietTactic
import Derived.BigQuiet
import Derived.WideLaws
import Derived.Deep.DeepCutAuto
import Derived.Deep.CutBlock
import Derived.Deep.RegionHeld3
import Derived.Laws.Rows
import Derived.Lib.AppendStr
import Derived.ArgAppend
import Derived.Laws.IdiomCopy
import Derived.OrdersHeld
import Derived.Laws.BitsLemmas
import Derived.RowKit
import Derived.Test.YtehaonhgbmlmnaaDoorS2
import Derived.Test.YtehaonhgbmlmnaaDoorWWords
import Derived.Test.YtehaonhgbmlmnaaDoorWLast
import Derived.Test.YtehaonhgbmlmnaaDoorWTab
import Derived.Test.YtehaonhgbmlmnaaDoorWQPut
import Derived.Test.YtehaonhgbmlmnaaDoorWApart
import Derived.Test.YtehaonhgbmlmnaaDoorWArr
import Derived.Test.YtehaonhgbmlmnaaDoorWZeros
import Derived.Test.YtehaonhgbmlmnaaDoorWFoot
import Derived.Test.YtehaonhgbmlmnaaDoorWKept
import Derived.Test.YtehaonhgbmlmnaaDoorWShare
import Derived.Test.YtehaonhgbmlmnaaDoorWN
import Derived.Test.YtehaonhgbmlmnaaDoorWRepsOne
import Derived.Test.YtehaonhgbmlmnaaDoorWGuard
import Derived.Test.YtehaonhgbmlmnaaDoorWNEv
import Derived.Test.YtehaonhgbmlmnaaDoorWMore
import Derived.Test.YtehaonhgbmlmnaaDoorWEqStruct
import Derived.Test.YtehaonhgbmlmnaaDoorWInv
import Derived.Test.YtehaonhgbmlmnaaDoorWInvWords
import Derived.Test.YtehaonhgbmlmnaaDoorG4
import Derived.StillTailTactics

namespace Go.Proofs.YtehaonhgbmlmnaaDoor.G
open Go.RowKit Go.Proofs.YtehaonhgbmlmnaaDoorW.PrintWords Go.Proofs.YtehaonhgbmlmnaaDoorW.PrintLast Go.Proofs.YtehaonhgbmlmnaaDoorW.PrintMore
attribute [local go_sem] max2_int min2_int max_two min_two max_three min_three max_four min_four
set_option linter.unusedVariables false
set_option linter.unusedSimpArgs false

/-! ### date.ParseSpan -/
/-- All that a call holds; its result's block stands apart. -/
structure All (g : Gs) (w0 w : World) (x : Sp) : Prop where
  i : Inv2 g w0 w x
  b : Below w0.heap.size w0 w
  z : w.heap[w0.heap.size]? = some (.cells #[.int .i64 0, .int .i64 0, .int .i64 0] 34 (0, 0))
  n : w0.heap.size ≠ g.r ∧ w0.heap.size ≠ g.m ∧ w0.heap.size ≠ g.e
section
variable {g : Gs} {w0 w w1 : World} {x y : Sp}
theorem All.step (h : All g w0 w x) (i : Inv2 g w0 w1 y) (b : Below w0.heap.size w0 w1) (k : Kept4 g w w1) : All g w0 w1 y := ⟨i, b, k.blk h.z h.n.1 h.n.2.1 h.n.2.2, h.n⟩
theorem All.setSec (h : All g w0 w x) (n : Int) : All g w0 (w.setCell ⟨g.m, 1, none⟩ (.int .i64 n)) { x with sec := n } := h.step (h.i.setSec n) (h.b.setCell h.i.gm _) ((Kept4.refl g w).set (.inr (.inl rfl)) 1 _)
theorem All.setNano (h : All g w0 w x) (n : Int) : All g w0 (w.setCell ⟨g.m, 2, none⟩ (.int .i64 n)) { x with nano := n } := h.step (h.i.setNano n) (h.b.setCell h.i.gm _) ((Kept4.refl g w).set (.inr (.inl rfl)) 2 _)
theorem All.setFound (h : All g w0 w x) (b : Bool) : All g w0 (w.setCell ⟨g.e, 0, none⟩ (.bool b)) { x with found := b } := h.step (h.i.setFound b) (h.b.setCell h.i.ge _) ((Kept4.refl g w).set (.inr (.inr rfl)) 0 _)
theorem All.setBad (h : All g w0 w x) (b : Bool) : All g w0 (w.setCell ⟨g.r, 1, none⟩ (.bool b)) { x with bad := b } := h.step (h.i.setBad b) (h.b.setCell h.i.r.2 _) ((Kept4.refl g w).set (.inl rfl) 1 _)
theorem All.drew (h : All g w0 w x) : All g w0 w.drew x := ⟨h.i.drew, below_drew1 h.b, blk_drew h.z, h.n⟩
theorem All.drewN (h : All g w0 w x) (n : Nat) : All g w0 (w.drewN n) x := ⟨h.i.drewN n, pw_below_drewN h.b n, blk_drewN h.z n, h.n⟩
theorem All.alloc (h : All g w0 w x) (o : Obj) : All g w0 (w.alloc o) x := ⟨h.i.alloc o, below_alloc h.b o, blk_alloc h.z o, h.n⟩
theorem All.below (h : All g w0 w x) (hb : Below w.heap.size w w1) : All g w0 w1 x := h.step (h.i.below hb) (below_step h.b hb) (Kept4.of_below hb)
/-- What its blocks' cells hold. -/
theorem All.cells (h : All g w0 w x) : w.cell? ⟨g.p, 0, none⟩ = some (.pointer (some ⟨g.r, 0, none⟩)) ∧ w.cell? ⟨g.r, 0, none⟩ = some (.string x.s) ∧ w.cell? ⟨g.r, 1, none⟩ = some (.bool x.bad) ∧ w.frozen? ⟨g.r, 1, none⟩ = false ∧
    w.cell? ⟨g.m, 0, none⟩ = some (.int .i64 x.mo) ∧ w.cell? ⟨g.m, 1, none⟩ = some (.int .i64 x.sec) ∧ w.cell? ⟨g.m, 2, none⟩ = some (.int .i64 x.nano) ∧ w.frozen? ⟨g.m, 1, none⟩ = false ∧ w.frozen? ⟨g.m, 2, none⟩ = false ∧
    w.cell? ⟨g.e, 0, none⟩ = some (.bool x.found) ∧ w.frozen? ⟨g.e, 0, none⟩ = false :=
  ⟨(blk_cell h.i.p 0).trans rfl, (blk_cell h.i.r.1 0).trans rfl, (blk_cell h.i.r.1 1).trans rfl, blk_frozen h.i.r.1 1, (blk_cell h.i.m 0).trans rfl, (blk_cell h.i.m 1).trans rfl, (blk_cell h.i.m 2).trans rfl, blk_frozen h.i.m 1, blk_frozen h.i.m 2, (blk_cell h.i.e 0).trans rfl, blk_frozen h.i.e 0⟩
theorem All.zero (h : All g w0 w x) : w.cell? ⟨w0.heap.size, 0, none⟩ = some (.int .i64 0) ∧ w.cell? ⟨w0.heap.size, 1, none⟩ = some (.int .i64 0) ∧ w.cell? ⟨w0.heap.size, 2, none⟩ = some (.int .i64 0) ∧
    w.frozen? ⟨w0.heap.size, 0, none⟩ = false ∧ w.frozen? ⟨w0.heap.size, 1, none⟩ = false ∧ w.frozen? ⟨w0.heap.size, 2, none⟩ = false :=
  ⟨(blk_cell h.z 0).trans rfl, (blk_cell h.z 1).trans rfl, (blk_cell h.z 2).trans rfl, blk_frozen h.z 0, blk_frozen h.z 1, blk_frozen h.z 2⟩
end
def partG (c : Int) (p : Put) (x : Sp) : Option Sp := if x.s.size ≤ 1000 then partF c p x else none
theorem all_part (c : Int) (p : Put) (g : Gs) (x x' : Sp) (w0 w : World) (hA : All g w0 w x) (h : partG c p x = some x') :
    Calls Tryd.prog 40 #[.int .u8 c, Put.val g p, .pointer (some ⟨g.p, 0, none⟩), .pointer (some ⟨g.e, 0, none⟩)] w fun e w' => e = .returned (.tuple #[]) ∧ All g w0 w' x' := by
  unfold partG at h
  split at h
  · rename_i hs
    exact (part_walk c p g x x' w0 w hA.i hA.b (by omega) h).mono fun _ _ ⟨e, i, b, k⟩ => ⟨e, hA.step i b k⟩
  · cases h
theorem all_takes (g : Gs) (x : Sp) (w0 w : World) (c : Int) (r1 : Bool) (s' : ByteArray) (b' : Bool) (hA : All g w0 w x) (h : Pr.date_reader_takes.f x.s x.bad c = some (r1, s', b')) :
    Calls Tryd.prog 39 #[.pointer (some ⟨g.r, 0, none⟩), .int .u8 c] w fun e w' => e = .returned (.bool r1) ∧ All g w0 w' { x with s := s', bad := b' } :=
  (Pr.date_reader_takes.calls g.r x.s x.bad c r1 s' b' w0 w hA.i.r hA.b h).mono fun _ _ ⟨e, i, b, k⟩ => ⟨e, hA.step (hA.i.read i k) b (Kept4.of_but k)⟩
theorem all_digits (K : Nat) (g : Gs) (x : Sp) (w0 w : World) (lo hi : Int) (r1 s' : ByteArray) (b' : Bool) (hA : All g w0 w x) (h : Pr.date_reader_digits.f K x.s x.bad lo hi = some (r1, s', b')) :
    Calls Tryd.prog 47 #[.pointer (some ⟨g.r, 0, none⟩), .int .i64 lo, .int .i64 hi] w fun e w' => e = .returned (.string r1) ∧ All g w0 w' { x with s := s', bad := b' } :=
  (Pr.date_reader_digits.calls K g.r x.s x.bad lo hi r1 s' b' w0 w hA.i.r hA.b h).mono fun _ _ ⟨e, i, b, k⟩ => ⟨e, hA.step (hA.i.read i k) b (Kept4.of_but k)⟩
theorem all_frac (K : Nat) (g : Gs) (x : Sp) (w0 w : World) (r1 : Int) (s' : ByteArray) (b' : Bool) (hA : All g w0 w x) (h : Pr.date_reader_frac.f K x.s x.bad = some (r1, s', b')) :
    Calls Tryd.prog 48 #[.pointer (some ⟨g.r, 0, none⟩)] w fun e w' => e = .returned (.int .i64 r1) ∧ All g w0 w' { x with s := s', bad := b' } :=
  (Pr.date_reader_frac.calls K g.r x.s x.bad r1 s' b' w0 w hA.i.r hA.b h).mono fun _ _ ⟨e, i, b, k⟩ => ⟨e, hA.step (hA.i.read i k) b (Kept4.of_but k)⟩
theorem all_want (K : Nat) (g : Gs) (x : Sp) (w0 w : World) (c : Int) (s' : ByteArray) (b' : Bool) (n : Nat) (hn : n = w.heap.size) (hA : All g w0 w x) (h : Pr.date_reader_want.f K x.s x.bad [c] = some (s', b')) :
    Calls Tryd.prog 26 #[.pointer (some ⟨g.r, 0, none⟩), .slice (some ⟨n, 0, none⟩) 1 1] (w.alloc (.cells #[.int .u8 c] 5)) fun e w' => e = .returned (.tuple #[]) ∧ All g w0 w' { x with s := s', bad := b' } := by
  subst hn
  exact (Pr.date_reader_want.calls K g.r x.s x.bad (some ⟨w.heap.size, 0, none⟩) 1 [c] s' b' w0 _ (hA.i.r.alloc _) (below_alloc hA.b _) (one_byte w c) (Nat.le_refl _)
    (by rintro ad ⟨rfl⟩ _; have := blk_lt hA.i.r.1; show w.heap.size ≠ g.r; omega) h).mono fun _ _ ⟨e, i, b, k⟩ =>
      ⟨e, hA.step (hA.i.read i ((keep_alloc (KeepBut.refl w g.r none) _).trans k (.inl rfl))) b (Kept4.of_but ((keep_alloc (KeepBut.refl w g.r none) _).trans k (.inl rfl)))⟩
def late (K : Nat) (x : Sp) : Option Sp :=
  if x.s.toList = [] then some x else (Pr.date_reader_digits.f K x.s x.bad 1 9).bind fun d => (strconv_Atoi.f d.1).bind fun v => (Pr.date_reader_frac.f K d.2.1 d.2.2).bind fun r => (Pr.date_reader_want.f K r.2.1 r.2.2 [83]).bind fun q =>
    some { x with sec := wrap64 (x.sec + v.1), nano := r.1, s := q.1, bad := q.2, found := true }
def times (K : Nat) (x : Sp) : Option Sp :=
  (partG 72 .h { x with found := false }).bind fun x4 => (partG 77 .mi x4).bind fun x5 => (late K x5).bind fun x6 => some { x6 with bad := x6.bad || !x6.found, found := x6.found || x.found }
def date_ParseSpan.f (K : Nat) (a0 : ByteArray) : Option (Int × Int × Int × Int) :=
  (Pr.date_reader_takes.f a0 false 45).bind fun t => (Pr.date_reader_want.f K t.2.1 t.2.2 [80]).bind fun p =>
  (partG 89 .y ⟨p.1, p.2, 0, 0, 0, false⟩).bind fun x1 => (partG 77 .mo x1).bind fun x2 => (partG 68 .d x2).bind fun x3 => (Pr.date_reader_takes.f x3.s x3.bad 84).bind fun u =>
  (if u.1 = true then times K { x3 with s := u.2.1, bad := u.2.2 } else some { x3 with s := u.2.1, bad := u.2.2 }).bind fun y =>
  if y.bad = true then some (0, 0, 0, 2) else if y.found = false then some (0, 0, 0, 2) else if ¬ y.s.toList = [] then some (0, 0, 0, 2) else
  some (wrap64 ((if t.1 = true then -1 else 1) * y.mo), wrap64 ((if t.1 = true then -1 else 1) * y.sec), wrap64 ((if t.1 = true then -1 else 1) * y.nano), 0)
/-- The first blocks. -/
structure Pre (w0 : World) (gr gp : Nat) (w : World) (s : ByteArray) (b : Bool) : Prop where
  r : Pr.IsS48 w0 w gr s b
  p : w.heap[gp]? = some (.cells #[.pointer (some ⟨gr, 0, none⟩)] 46 (0, 0))
  z : w.heap[w0.heap.size]? = some (.cells #[.int .i64 0, .int .i64 0, .int .i64 0] 34 (0, 0))
  b : Below w0.heap.size w0 w
theorem Pre.read {w0 w w1 : World} {gr gp : Nat} {s s' : ByteArray} {b b' : Bool} (h : Pre w0 gr gp w s b) (i : Pr.IsS48 w0 w1 gr s' b') (hb : Below w0.heap.size w0 w1) (k : KeepBut w w1 gr none) : Pre w0 gr gp w1 s' b' :=
  ⟨i, k.blk h.p (blk_ne h.p h.r.1 (by decide)) (by simp), k.blk h.z (blk_ne h.z h.r.1 (by decide)) (by simp), hb⟩
theorem pre_start (w : World) (a0 : ByteArray) : Pre w (w.heap.size + 1) (w.heap.size + 1 + 1) (((w.alloc (.cells #[.int .i64 0, .int .i64 0, .int .i64 0] 34)).alloc (.cells #[.string a0, .bool false] 48)).alloc (.cells #[.pointer (some ⟨w.heap.size + 1, 0, none⟩)] 46)) a0 false := by
  have n1 : ∀ (W : World) (o : Obj), (W.alloc o).heap.size = W.heap.size + 1 := fun W o => by simp
  have nw : ∀ (W : World) (o : Obj), (W.alloc o).heap[W.heap.size]? = some o := fun W o => by simpa using heap_alloc_new W o
  refine ⟨⟨?_, by show w.heap.size ≤ w.heap.size + 1; omega⟩, ?_, ?_, below_alloc (below_alloc (below_alloc (Below.refl _ _) _) _) _⟩
  · have := nw (w.alloc (.cells #[.int .i64 0, .int .i64 0, .int .i64 0] 34)) (.cells #[.string a0, .bool false] 48)
    rw [n1] at this
    exact blk_alloc this _
  · have := nw ((w.alloc (.cells #[.int .i64 0, .int .i64 0, .int .i64 0] 34)).alloc (.cells #[.string a0, .bool false] 48)) (.cells #[.pointer (some ⟨w.heap.size + 1, 0, none⟩)] 46)
    rw [n1, n1] at this
    exact this
  · exact blk_alloc (blk_alloc (nw w _) _) _
/-- The blocks are all there. -/
theorem all_start {w0 w : World} {gr gp : Nat} {s : ByteArray} {b : Bool} (h : Pre w0 gr gp w s b) :
    All ⟨gr, gp, w.heap.size, w.heap.size + 1⟩ w0 ((w.alloc (.cells #[.int .i64 0, .int .i64 0, .int .i64 0] 34)).alloc (.cells #[.bool false] 4)) ⟨s, b, 0, 0, 0, false⟩ := by
  have n1 : ∀ (W : World) (o : Obj), (W.alloc o).heap.size = W.heap.size + 1 := fun W o => by simp
  have nw : ∀ (W : World) (o : Obj), (W.alloc o).heap[W.heap.size]? = some o := fun W o => by simpa using heap_alloc_new W o
  have hb := h.b.size
  have hz := blk_lt h.z
  refine ⟨⟨(h.r.alloc _).alloc _, blk_alloc (blk_alloc h.p _) _, blk_alloc (nw w _) _, ?_, hb, by show w0.heap.size ≤ w.heap.size + 1; omega⟩, below_alloc (below_alloc h.b _) _, blk_alloc (blk_alloc h.z _) _, blk_ne h.z h.r.1 (by decide), by show w0.heap.size ≠ w.heap.size; omega, by show w0.heap.size ≠ w.heap.size + 1; omega⟩
  have := nw (w.alloc (.cells #[.int .i64 0, .int .i64 0, .int .i64 0] 34)) (.cells #[.bool false] 4)
  rw [n1] at this
  exact this
def Signed (w0 : World) (gr gp : Nat) (sg : Int) (s : ByteArray) (b : Bool) (v : Value) (wc : World) : Prop := v = .int .i64 sg ∧ Pre w0 gr gp wc s b
/-- Behind the parts. -/
def Behind (g : Gs) (w0 : World) (y : Sp) (wc : World) : Prop := All g w0 wc y
set_option maxRecDepth 100000 in
set_option maxHeartbeats 4000000 in
theorem date_ParseSpan.calls (K : Nat) (a0 : ByteArray) (r1 r2 r3 r4 : Int) (w : World) (h : date_ParseSpan.f K a0 = some (r1, r2, r3, r4)) :
    Calls Tryd.prog 15 #[.string a0] w fun e w' => e = .returned (.tuple #[.agg #[.int .i64 r1, .int .i64 r2, .int .i64 r3], .int .i64 r4]) ∧ Below w.heap.size w w' := by
  unfold date_ParseSpan.f at h
  have h' := Option.bind_eq_some_iff.mp h; clear h; obtain ⟨⟨t1, t2, t3⟩, ht, h⟩ := h'
  have h' := Option.bind_eq_some_iff.mp h; clear h; obtain ⟨⟨p1, p2⟩, hp, h⟩ := h'
  have h' := Option.bind_eq_some_iff.mp h; clear h; obtain ⟨x1, h1, h⟩ := h'
  have h' := Option.bind_eq_some_iff.mp h; clear h; obtain ⟨x2, h2, h⟩ := h'
  have h' := Option.bind_eq_some_iff.mp h; clear h; obtain ⟨x3, h3, h⟩ := h'
  have h' := Option.bind_eq_some_iff.mp h; clear h; obtain ⟨⟨u1, u2, u3⟩, hu, h⟩ := h'
  have h' := Option.bind_eq_some_iff.mp h; clear h; obtain ⟨y, hy, h⟩ := h'
  dsimp only at hp h1 hu hy h
  obtain ⟨sg, hsg⟩ : ∃ sg : Int, sg = (if t1 = true then -1 else 1) := ⟨_, rfl⟩
  rw [← hsg] at h
  have HSG := Lib.hid hsg; clear hsg
  have HT := Lib.hid ht; have HP := Lib.hid hp; have H1 := Lib.hid h1; have H2 := Lib.hid h2; have H3 := Lib.hid h3; have HU := Lib.hid hu; have HY := Lib.hid hy; have HH := Lib.hid h
  clear ht hp h1 h2 h3 hu hy h
  go_enter Tryd.func15, Tryd.ntmps15
  go_upto_if 16 with (go_at_call 39; have hp0 := pre_start w a0; refine (Pr.date_reader_takes.calls (w.heap.size + 1) a0 false 45 t1 t2 t3 w _ hp0.r hp0.b HT.out).mono ?_; rintro e w1 ⟨rfl, hr1, hB1, hk1⟩; have HP1 := Lib.hid (hp0.read hr1 hB1 hk1); clear hr1 hB1 hk1 hp0)
  go_cut [5] (fun v wc => Signed w (w.heap.size + 1) (w.heap.size + 1 + 1) sg t2 t3 v wc)
  case first =>
    cases t1
    all_goals
      go_wp2
      go_meet
      case rel => exact ⟨by rw [HSG.out]; rfl, HP1.out⟩
  case rest =>
    obtain ⟨hv, hP⟩ := hcut
    subst hv
    have cp : wc.cell? ⟨w.heap.size + 1 + 1, 0, none⟩ = some (.pointer (some ⟨w.heap.size + 1, 0, none⟩)) := (blk_cell hP.p 0).trans rfl
    generalize w.heap.size + 1 + 1 = gp at hP cp ⊢
    generalize w.heap.size + 1 = gr at hP cp ⊢
    have HP0 := Lib.hid hP; clear hP HP1 HT
    go_wp2_with (fail)
    have hlr := blk_lt HP0.out.r.1
    refine (Pr.date_reader_want.calls K gr t2 t3 (some ⟨wc.heap.size, 0, none⟩) 1 [80] p1 p2 w _ (HP0.out.r.alloc _) (below_alloc HP0.out.b _) (one_byte wc 80) (by decide) (by rintro ad ⟨rfl⟩ _; show wc.heap.size ≠ gr; omega) HP.out).mono ?_
    rintro e w2 ⟨rfl, hr1, hB1, hk1⟩
    have hP2 := HP0.out.read hr1 hB1 ((keep_alloc (KeepBut.refl wc gr none) _).trans hk1 (.inl rfl))
    have hA := all_start hP2
    clear hr1 hB1 hk1 hlr HP0 cp HP hP2
    have HA0 := Lib.hid hA; clear hA
    go_wp2_with (fail)
    have hA := HA0.out
    clear HA0
    generalize (w2.alloc (.cells #[.int .i64 0, .int .i64 0, .int .i64 0] 34)).alloc (.cells #[.bool false] 4) = W3 at hA ⊢
    generalize w2.heap.size + 1 = ge at hA ⊢
    generalize w2.heap.size = gm at hA ⊢
    refine (all_part 89 .y ⟨gr, gp, gm, ge⟩ ⟨p1, p2, 0, 0, 0, false⟩ x1 w W3 hA H1.out).mono ?_
    clear hA
    rintro e w4 ⟨rfl, hA⟩
    have HA := Lib.hid hA; clear hA
    go_wp2_with (fail)
    refine (all_part 77 .mo ⟨gr, gp, gm, ge⟩ x1 x2 w w4 HA.out H2.out).mono ?_
    clear HA
    rintro e w5 ⟨rfl, hA⟩
    have HA := Lib.hid hA; clear hA
    go_wp2_with (fail)
    refine (all_part 68 .d ⟨gr, gp, gm, ge⟩ x2 x3 w w5 HA.out H3.out).mono ?_
    clear HA
    rintro e w6 ⟨rfl, hA⟩
    have c1 := hA.cells.1
    have HA := Lib.hid hA; clear hA H1 H2 H3
    go_wp2_with (fail)
    refine (all_takes ⟨gr, gp, gm, ge⟩ x3 w w6 84 u1 u2 u3 HA.out HU.out).mono ?_
    clear HA HU c1
    rintro e w7 ⟨rfl, hA⟩
    have HA := Lib.hid hA; clear hA
    generalize ({ x3 with s := u2, bad := u3 } : Sp) = z at HA HY
    go_upto_if 31 with (fail)
    go_cut [] (fun wc => Behind ⟨gr, gp, gm, ge⟩ w y wc)
    case first =>
      have hy := HY.out
      clear HY HH HSG
      by_cases hu1 : u1 = true
      · subst hu1
        rw [if_pos rfl] at hy
        unfold times at hy
        have h' := Option.bind_eq_some_iff.mp hy; clear hy; obtain ⟨x4, h4, hy⟩ := h'
        have h' := Option.bind_eq_some_iff.mp hy; clear hy; obtain ⟨x5, h5, hy⟩ := h'
        have h' := Option.bind_eq_some_iff.mp hy; clear hy; obtain ⟨x6, h6, hy⟩ := h'
        obtain rfl := Option.some.inj hy
        have H4 := Lib.hid h4; have H5 := Lib.hid h5; have H6 := Lib.hid h6; clear h4 h5 h6 hy
        obtain ⟨k1, k2, k3, k4, k5, k6, k7, k8, k9, k10, k11⟩ := HA.out.cells
        go_wp2_with (fail)
        have hA := HA.out.setFound false
        refine (all_part 72 .h ⟨gr, gp, gm, ge⟩ { z with found := false } x4 w _ hA H4.out).mono ?_
        clear hA HA H4 k1 k2 k3 k4 k5 k6 k7 k8 k9 k10 k11
        rintro e w8 ⟨rfl, hA⟩
        have HA := Lib.hid hA; clear hA
        go_wp2_with (fail)
        refine (all_part 77 .mi ⟨gr, gp, gm, ge⟩ x4 x5 w w8 HA.out H5.out).mono ?_
        clear HA H5
        rintro e w9 ⟨rfl, hA⟩
        obtain ⟨k1, k2, k3, k4, k5, k6, k7, k8, k9, k10, k11⟩ := hA.cells
        have HA := Lib.hid hA; clear hA
        go_upto_if 43 with (fail)
        go_cut [] (fun wc => Behind ⟨gr, gp, gm, ge⟩ w x6 wc)
        case first =>
          have h6 := H6.out
          clear H6
          unfold late at h6
          by_cases hs : x5.s.toList = []
          · have s1 : (x5.s.toList == ([] : List UInt8)) = true := beq_iff_eq.mpr hs
            have s2 : (x5.s.toList != ([] : List UInt8)) = false := bne_eq_false_iff_eq.mpr hs
            have s3 : (!x5.s.toList.isEmpty) = false := by rw [hs]; rfl
            rw [if_pos hs] at h6
            have h6' := Option.some.inj h6
            clear hs h6
            subst h6'
            rw [s3]
            clear s1 s2 s3
            go_wp2
            go_meet
            case rel => exact HA.out
          · have s1 : (x5.s.toList == ([] : List UInt8)) = false := beq_eq_false_iff_ne.mpr hs
            have s2 : (x5.s.toList != ([] : List UInt8)) = true := bne_iff_ne.mpr hs
            have s3 : (!x5.s.toList.isEmpty) = true := by simpa using hs
            rw [if_neg hs] at h6
            have h' := Option.bind_eq_some_iff.mp h6; clear h6; obtain ⟨⟨d1, d2, d3⟩, hd, h6⟩ := h'
            have h' := Option.bind_eq_some_iff.mp h6; clear h6; obtain ⟨⟨v1, v2⟩, hv, h6⟩ := h'
            have h' := Option.bind_eq_some_iff.mp h6; clear h6; obtain ⟨⟨f1, f2, f3⟩, hf, h6⟩ := h'
            have h' := Option.bind_eq_some_iff.mp h6; clear h6; obtain ⟨⟨q1, q2⟩, hq, h6⟩ := h'
            obtain rfl := Option.some.inj h6
            dsimp only at hv hf hq
            have HD := Lib.hid hd; have HV := Lib.hid hv; have HF := Lib.hid hf; have HQ := Lib.hid hq; clear hs hd hv hf hq h6
            rw [s3]
            clear s1 s2 s3
            go_wp2_with (fail)
            refine (all_digits K ⟨gr, gp, gm, ge⟩ x5 w w9 1 9 d1 d2 d3 HA.out HD.out).mono ?_
            clear HA HD k1 k2 k3 k4 k5 k6 k7 k8 k9 k10 k11
            rintro e w10 ⟨rfl, hA⟩
            have HA := Lib.hid hA; clear hA
            go_wp2_with (fail)
            refine (strconv_Atoi.calls d1 v1 v2 w10 HV.out).mono ?_
            rintro e w11 ⟨rfl, hb⟩
            have hA := HA.out.below hb
            clear HA hb HV
            obtain ⟨k1, k2, k3, k4, k5, k6, k7, k8, k9, k10, k11⟩ := hA.cells
            have HA := Lib.hid hA; clear hA
            go_wp2_with (fail)
            have hA := HA.out.setSec (wrap64 (x5.sec + v1))
            refine (all_frac K ⟨gr, gp, gm, ge⟩ _ w _ f1 f2 f3 hA HF.out).mono ?_
            clear HA HF hA k1 k2 k3 k4 k5 k6 k7 k8 k9 k10 k11
            rintro e w12 ⟨rfl, hA⟩
            obtain ⟨k1, k2, k3, k4, k5, k6, k7, k8, k9, k10, k11⟩ := hA.cells
            have HA := Lib.hid hA; clear hA
            go_wp2_with (fail)
            have hA := HA.out.setNano f1
            refine (all_want K ⟨gr, gp, gm, ge⟩ _ w _ 83 q1 q2 _ (by simp [World.setCell]) hA HQ.out).mono ?_
            clear HA HQ hA k1 k2 k3 k4 k5 k6 k7 k8 k9 k10 k11
            rintro e w13 ⟨rfl, hA⟩
            obtain ⟨k1, k2, k3, k4, k5, k6, k7, k8, k9, k10, k11⟩ := hA.cells
            have HA := Lib.hid hA; clear hA
            go_wp2
            go_meet
            case rel => exact HA.out.setFound true
        case rest =>
          have hA : All ⟨gr, gp, gm, ge⟩ w wc x6 := hcut
          obtain ⟨k1, k2, k3, k4, k5, k6, k7, k8, k9, k10, k11⟩ := hA.cells
          have n1 := hA.i.ne_er; have n2 := hA.i.ne_er.symm
          dsimp only at n1 n2
          have HA2 := Lib.hid hA
          clear hcut HA hA H6
          obtain ⟨y1, y2, y3, y4, y5, y6⟩ := x6
          dsimp only at k3 k10
          cases y2 <;> cases y6
          all_goals
            go_wp2
            go_still_tail 11, (by kernel_rfl)
            change wpList _ _ _ _ _ wc.drew
            go_wp2
            go_meet
            case rel => exact (HA2.out.setBad _).drew.setFound _
      · obtain rfl : u1 = false := by simpa using hu1
        rw [if_neg (by decide)] at hy
        obtain rfl := Option.some.inj hy
        clear hy hu1
        go_wp2
        go_meet
        case rel => exact HA.out
    case rest =>
      have hA : All ⟨gr, gp, gm, ge⟩ w wc y := hcut
      obtain ⟨k1, k2, k3, k4, k5, k6, k7, k8, k9, k10, k11⟩ := hA.cells
      obtain ⟨q1, q2, q3, q4, q5, q6⟩ := hA.zero
      have hh := HH.out
      have HB := Lib.hid hA.b
      clear hcut HA HY HH HSG hA
      by_cases hb : y.bad = true
      · rw [hb] at k3
        rw [if_pos hb] at hh
        cases hh
        clear hb
        go_wp2
        exact bodyPost_ret (v := .tuple #[.agg #[.int .i64 0, .int .i64 0, .int .i64 0], .int .i64 2]) (by simp [results, Tryd.results15, go_sem, q1, q2, q3]) rfl ⟨rfl, by repeat (first | (with_reducible first | exact HB.out | apply pw_below_drewN | apply below_drew1 | refine below_set ?_ (Nat.le_refl _)) | exact HB.out)⟩
      have hb' : y.bad = false := by simpa using hb
      rw [hb'] at k3
      rw [if_neg hb] at hh
      clear hb hb'
      by_cases hf : y.found = false
      · rw [hf] at k10
        rw [if_pos hf] at hh
        cases hh
        clear hf
        go_wp2
        exact bodyPost_ret (v := .tuple #[.agg #[.int .i64 0, .int .i64 0, .int .i64 0], .int .i64 2]) (by simp [results, Tryd.results15, go_sem, q1, q2, q3]) rfl ⟨rfl, by repeat (first | (with_reducible first | exact HB.out | apply pw_below_drewN | apply below_drew1 | refine below_set ?_ (Nat.le_refl _)) | exact HB.out)⟩
      have hf' : y.found = true := by simpa using hf
      rw [hf'] at k10
      rw [if_neg hf] at hh
      clear hf hf'
      by_cases hs : y.s.toList = []
      · have s1 : (y.s.toList == ([] : List UInt8)) = true := beq_iff_eq.mpr hs
        have s2 : (y.s.toList != ([] : List UInt8)) = false := bne_eq_false_iff_eq.mpr hs
        rw [if_neg (by simpa using hs)] at hh
        simp only [Option.some.injEq, Prod.mk.injEq] at hh
        obtain ⟨rfl, rfl, rfl, rfl⟩ := hh
        clear hs
        go_wp2
        exact bodyPost_ret (v := .tuple #[.agg #[.int .i64 (wrap64 (sg * y.mo)), .int .i64 (wrap64 (sg * y.sec)), .int .i64 (wrap64 (sg * y.nano))], .int .i64 0]) (by simp [results, Tryd.results15, go_sem, q1, q2, q3]) rfl ⟨rfl, by repeat (first | (with_reducible first | exact HB.out | apply pw_below_drewN | apply below_drew1 | refine below_set ?_ (Nat.le_refl _)) | exact HB.out)⟩
      · have s1 : (y.s.toList == ([] : List UInt8)) = false := beq_eq_false_iff_ne.mpr hs
        have s2 : (y.s.toList != ([] : List UInt8)) = true := bne_iff_ne.mpr hs
        rw [if_pos hs] at hh
        cases hh
        clear hs
        go_wp2
        exact bodyPost_ret (v := .tuple #[.agg #[.int .i64 0, .int .i64 0, .int .i64 0], .int .i64 2]) (by simp [results, Tryd.results15, go_sem, q1, q2, q3]) rfl ⟨rfl, by repeat (first | (with_reducible first | exact HB.out | apply pw_below_drewN | apply below_drew1 | refine below_set ?_ (Nat.le_refl _)) | exact HB.out)⟩
theorem late_mono (k : Nat) (x : Sp) : LeO (late k x) (late (k + 1) x) := by
  unfold late
  exact LeO.ite (LeO.refl _) (LeO.bind (Pr.date_reader_digits.mono _ _ _ _ k) (fun d => LeO.bind (LeO.refl _) (fun v => LeO.bind (Pr.date_reader_frac.mono _ _ k) (fun r => LeO.bind (Pr.date_reader_want.mono _ _ _ k) (fun q => LeO.refl _)))))
theorem times_mono (k : Nat) (x : Sp) : LeO (times k x) (times (k + 1) x) := by
  unfold times
  exact LeO.bind (LeO.refl _) (fun x4 => LeO.bind (LeO.refl _) (fun x5 => LeO.bind (late_mono k _) (fun x6 => LeO.refl _)))
theorem date_ParseSpan.mono : ∀ a0 k, LeO (date_ParseSpan.f k a0) (date_ParseSpan.f (k + 1) a0) := by
  intro a0 k
  unfold date_ParseSpan.f
  exact LeO.bind (LeO.refl _) (fun t => LeO.bind (Pr.date_reader_want.mono _ _ _ k) (fun p => LeO.bind (LeO.refl _) (fun x1 => LeO.bind (LeO.refl _) (fun x2 => LeO.bind (LeO.refl _) (fun x3 => LeO.bind (LeO.refl _) (fun u =>
    LeO.bind (LeO.ite (times_mono k _) (LeO.refl _)) (fun y => LeO.refl _)))))))

end Go.Proofs.YtehaonhgbmlmnaaDoor.G
