import Derived.Test.YthocjdlcopmhiaaDoorProg
import Derived.Below
import Derived.Deep.Draws
import Derived.Deep.AppendLies
import Derived.Maps.AppendAt
import Derived.OwnWalk
import Derived.Laws.BytesArg
import Derived.Laws.MakeOwn
import Derived.Laws.OwnMore
import Derived.Deep.OwnRows
import Derived.Tactics
import Derived.Lib.ConvBytes
import Derived.Laws.Slices
import Derived.WalkKit
import Derived.KernelRfl
import Derived.RowKit3
import Derived.Deep.LoopGhost
import Derived.Deep.QuietTactic
import Derived.BigQuiet
import Derived.WideLaws
import Derived.Deep.DeepCutAuto
import Derived.Deep.CutBlock
import Derived.Deep.RegionHeld3
import Derived.Laws.Rows
import Derived.Lib.AppendStr
import Derived.ArgAppend
import Derived.Laws.IdiomCopy
import Derived.OrdersHeld
import Derived.Laws.BitsLemmas
import Derived.RowKit
import Derived.Test.YthocjdlcopmhiaaDoorWWords
import Derived.Test.YthocjdlcopmhiaaDoorWLast
import Derived.Test.YthocjdlcopmhiaaDoorWTab
import Derived.Test.YthocjdlcopmhiaaDoorWQPut
import Derived.Test.YthocjdlcopmhiaaDoorWApart
import Derived.Test.YthocjdlcopmhiaaDoorWArr
import Derived.Test.YthocjdlcopmhiaaDoorWZeros
import Derived.Test.YthocjdlcopmhiaaDoorWFoot
import Derived.Test.YthocjdlcopmhiaaDoorWKept
import Derived.Test.YthocjdlcopmhiaaDoorWShare
import Derived.Test.YthocjdlcopmhiaaDoorWN
import Derived.Test.YthocjdlcopmhiaaDoorWRepsOne
import Derived.Test.YthocjdlcopmhiaaDoorWGuard
import Derived.Test.YthocjdlcopmhiaaDoorWNEv
import Derived.Test.YthocjdlcopmhiaaDoorWMore
import Derived.Test.YthocjdlcopmhiaaDoorWEqStruct
import Derived.Test.YthocjdlcopmhiaaDoorWFour
import Derived.Test.YthocjdlcopmhiaaDoorWFootNe
import Derived.Test.YthocjdlcopmhiaaDoorWAt
import Derived.Test.YthocjdlcopmhiaaDoorWInv
import Derived.Test.YthocjdlcopmhiaaDoorWInvWords
import Derived.Test.YthocjdlcopmhiaaDoorM6
import Derived.Test.YthocjdlcopmhiaaDoorPrx3
import Derived.Test.YthocjdlcopmhiaaDoorM2
import Derived.Test.YthocjdlcopmhiaaDoorPrx4
namespace Go.Proofs.YthocjdlcopmhiaaDoor.G
open Go.RowKit Go.Proofs.YthocjdlcopmhiaaDoorW.PrintWords Go.Proofs.YthocjdlcopmhiaaDoorW.PrintLast Go.Proofs.YthocjdlcopmhiaaDoorW.PrintMore
attribute [local go_sem] max2_int min2_int max_two min_two max_three min_three max_four min_four
set_option linter.unusedVariables false
set_option linter.unusedSimpArgs false
structure Cw where
 n : Int
 many : Bool
 bad : Bool
structure Cg where
 n : Nat
 m : Nat
 b : Nat
 w : Nat
abbrev Cg.f (g : Cg) : Value := .func (.func 15) #[] #[.pointer (some ⟨g.n, 0, none⟩), .pointer (some ⟨g.m, 0, none⟩), .pointer (some ⟨g.b, 0, none⟩), .pointer (some ⟨g.w, 0, none⟩)]
structure Ck (w0 w : World) (g : Cg) (x : Cw) : Prop where
 n : w.heap[g.n]? = some (.cells #[.int .i64 x.n] 3 (0, 0))
 m : w.heap[g.m]? = some (.cells #[.bool x.many] 4 (0, 0))
 b : w.heap[g.b]? = some (.cells #[.bool x.bad] 4 (0, 0))
 w : w.heap[g.w]? = some (.cells #[g.f] 41 (0, 0))
 hn : w0.heap.size ≤ g.n
 hm : w0.heap.size ≤ g.m
 hb : w0.heap.size ≤ g.b
 mb : g.m ≠ g.b
abbrev Cg.own (g : Cg) (q : Nat) : Prop := q = g.n ∨ q = g.m ∨ q = g.b
section
variable {w0 w w' : World} {g : Cg} {x : Cw}
theorem Ck.ne_nm (h : Ck w0 w g x) : g.n ≠ g.m := blk_ne h.n h.m (by decide)
theorem Ck.ne_nb (h : Ck w0 w g x) : g.n ≠ g.b := blk_ne h.n h.b (by decide)
theorem Ck.ne_wn (h : Ck w0 w g x) : g.w ≠ g.n := blk_ne h.w h.n (by decide)
theorem Ck.ne_wm (h : Ck w0 w g x) : g.w ≠ g.m := blk_ne h.w h.m (by decide)
theorem Ck.ne_wb (h : Ck w0 w g x) : g.w ≠ g.b := blk_ne h.w h.b (by decide)
theorem Ck.below (h : Ck w0 w g x) (hb : Below w.heap.size w w') : Ck w0 w' g x := ⟨blk_below h.n hb, blk_below h.m hb, blk_below h.b hb, blk_below h.w hb, h.hn, h.hm, h.hb, h.mb⟩
theorem Ck.setN (h : Ck w0 w g x) (v : Int) : Ck w0 (w.setCell ⟨g.n, 0, none⟩ (.int .i64 v)) g { x with n := v } :=
 ⟨blk_put h.n 0 _ rfl, blk_far h.m h.ne_nm.symm _, blk_far h.b h.ne_nb.symm _, blk_far h.w h.ne_wn _, h.hn, h.hm, h.hb, h.mb⟩
theorem Ck.setM (h : Ck w0 w g x) (v : Bool) : Ck w0 (w.setCell ⟨g.m, 0, none⟩ (.bool v)) g { x with many := v } :=
 ⟨blk_far h.n h.ne_nm _, blk_put h.m 0 _ rfl, blk_far h.b h.mb.symm _, blk_far h.w h.ne_wm _, h.hn, h.hm, h.hb, h.mb⟩
theorem Ck.setB (h : Ck w0 w g x) (v : Bool) : Ck w0 (w.setCell ⟨g.b, 0, none⟩ (.bool v)) g { x with bad := v } :=
 ⟨blk_far h.n h.ne_nb _, blk_far h.m h.mb _, blk_put h.b 0 _ rfl, blk_far h.w h.ne_wb _, h.hn, h.hm, h.hb, h.mb⟩
theorem ownK (w : World) (g : Cg) (p : Addr) (hp : g.own p.block) (v : Value) : Kept w (w.setCell p v) g.own := (Kept.refl w g.own).setCell (.inl hp) v
end
def kidsC (f : Pr.S24 → Int → Bool → Cw → Option Cw) : List Pr.S24 → Int → Bool → Cw → Option Cw
 | [], _, _, x => some x
 | e :: l, d, c, x => if x.many = true then some x else (f e d c x).bind fun y => kidsC f l d c y
def walkC : Nat → Pr.S24 → Int → Bool → Cw → Option Cw
 | 0 => fun _ _ _ _ => none
 | k + 1 => fun e d c x => if 0 ≤ x.n ∧ x.n ≤ 4096 ∧ 0 ≤ d ∧ d ≤ 201 then
   if 4096 < x.n + 1 ∨ 200 < d then some ⟨x.n + 1, true, x.bad⟩
   else (if x.bad = true then some true else if c = true then Pr.glush_wrong.f k e.f0 e.f1 e.f2 e.f3 e.f4 else some false).bind fun b =>
    kidsC (walkC k) e.f4 (d + 1) (c && (e.f0 == 3 || e.f0 == 4 || e.f0 == 5)) ⟨x.n + 1, x.many, b⟩
  else none
def CkOk (F : FuncId) (f : Pr.S24 → Int → Bool → Cw → Option Cw) : Prop :=
 ∀ (w0 w : World) (g : Cg) (e : Pr.S24) (A : Option Addr) (c : Nat) (d : Int) (cn : Bool) (x r : Cw), Ck w0 w g x → Below w0.heap.size w0 w → Kd.C Pr.k24 w0 A e.f4.length e.f4 → e.f4.length ≤ c → f e d cn x = some r →
  Calls Tryd.prog F #[EV e A c, .int .i64 d, .bool cn, .pointer (some ⟨g.n, 0, none⟩), .pointer (some ⟨g.m, 0, none⟩), .pointer (some ⟨g.b, 0, none⟩), .pointer (some ⟨g.w, 0, none⟩)] w fun e w' => (∃ v, e = .returned v) ∧ Ck w0 w' g r ∧ Below w0.heap.size w0 w' ∧ Kept w w' g.own
theorem CkOk.call {F : FuncId} {f : Pr.S24 → Int → Bool → Cw → Option Cw} (h : CkOk F f) (w0 w : World) (g : Cg) (e : Pr.S24) (A : Option Addr) (c : Nat) (d : Int) (cn : Bool) (x r : Cw) (h1 : Ck w0 w g x) (h2 : Below w0.heap.size w0 w) (h3 : Kd.C Pr.k24 w0 A e.f4.length e.f4) (h4 : e.f4.length ≤ c) (h5 : f e d cn x = some r) :
  Calls Tryd.prog F #[EV e A c, .int .i64 d, .bool cn, .pointer (some ⟨g.n, 0, none⟩), .pointer (some ⟨g.m, 0, none⟩), .pointer (some ⟨g.b, 0, none⟩), .pointer (some ⟨g.w, 0, none⟩)] w fun e w' => (∃ v, e = .returned v) ∧ Ck w0 w' g r ∧ Below w0.heap.size w0 w' ∧ Kept w w' g.own := h w0 w g e A c d cn x r h1 h2 h3 h4 h5
set_option maxHeartbeats 8000000 in
set_option maxRecDepth 100000 in
theorem check1_step (k : Nat) (ih : CkOk 15 (walkC k)) : CkOk 15 (walkC (k + 1)) := by
 intro w0 w g e A c d cn x r hck hB hC hc h
 obtain ⟨f0, f1, f2, f3, f4⟩ := e
 unfold walkC at h
 dsimp only at h hC hc
 obtain ⟨hg, h⟩ := some_if h
 have hu24 := Tryd.underlying24
 unfold EV
 dsimp only
 have HX := Lib.hid hg; have HCK := Lib.hid hck; have HB := Lib.hid hB; have HC := Lib.hid hC; have Hc := Lib.hid hc
 clear hck hB hC hc hg
 go_enter Tryd.func15, Tryd.ntmps15
 go_upto_region 1 with (fail)
 have hby := below_alloc (Below.refl w.heap.size w) (.cells #[.int .i64 f0, .int .i64 f1, .int .i64 f2, .int .i64 f3, .slice A f4.length c] 24)
 have KX : (w.alloc (.cells #[.int .i64 f0, .int .i64 f1, .int .i64 f2, .int .i64 f3, .slice A f4.length c] 24)).heap[w.heap.size]? = some (.cells #[.int .i64 f0, .int .i64 f1, .int .i64 f2, .int .i64 f3, .slice A f4.length c] 24 (0, 0)) := blk_new w _
 have HCKA := Lib.hid (HCK.out.below hby); have HBA := Lib.hid (below_step HB.out hby); have HKA := Lib.hid (Kept.of_below hby g.own); have HWB := Lib.hid (blk_lt HCK.out.n); have HWM := Lib.hid (blk_lt HCK.out.m); have HWBB := Lib.hid (blk_lt HCK.out.b)
 clear hby HCK HB
 generalize w.alloc (.cells #[.int .i64 f0, .int .i64 f1, .int .i64 f2, .int .i64 f3, .slice A f4.length c] 24) = wA at KX HCKA HBA HKA ⊢
 have KXA := Lib.hid KX; clear KX
 have n0 : wA.cell? ⟨g.n, 0, none⟩ = some (.int .i64 x.n) := (blk_cell HCKA.out.n 0).trans rfl
 have z0 := blk_frozen HCKA.out.n 0
 go_upto_region 2 with (fail)
 clear n0 z0
 have hw : wrap64 (x.n + 1) = x.n + 1 := by have := HX.out; unfold wrap64; omega
 rw [hw]
 have HCKB := Lib.hid (HCKA.out.setN (x.n + 1)); have HBB := Lib.hid (HBA.out.setCell (p := ⟨g.n, 0, none⟩) HCKA.out.hn (.int .i64 (x.n + 1))); have HKB := Lib.hid (HKA.out.setCell (p := ⟨g.n, 0, none⟩) (.inl (.inl rfl)) (.int .i64 (x.n + 1)))
 have HNX : Hid (∀ q, g.own q → ¬ w.heap.size = q) := Lib.hid (fun q hq he => by rcases hq with h | h | h <;> (rw [h] at he; first | exact Nat.lt_irrefl _ (he ▸ HWB.out) | exact Nat.lt_irrefl _ (he ▸ HWM.out) | exact Nat.lt_irrefl _ (he ▸ HWBB.out)))
 have KXB := Lib.hid (blk_kept KXA.out (ownK wA g ⟨g.n, 0, none⟩ (.inl rfl) (.int .i64 (x.n + 1))) (fun h => HNX.out _ h rfl))
 clear HCKA HBA HKA KXA hw
 generalize wA.setCell ⟨g.n, 0, none⟩ (.int .i64 (x.n + 1)) = wB at HCKB HBB HKB KXB ⊢
 have n0 : wB.cell? ⟨g.n, 0, none⟩ = some (.int .i64 (x.n + 1)) := (blk_cell HCKB.out.n 0).trans rfl
 by_cases h1 : 4096 < x.n + 1
 ·rw [if_pos (.inl h1)] at h
  obtain rfl := Option.some.inj h
  have b1 : decide (4096 < x.n + 1) = true := decide_eq_true h1
  have m0 : wB.cell? ⟨g.m, 0, none⟩ = some (.bool x.many) := (blk_cell HCKB.out.m 0).trans rfl
  have y0 := blk_frozen HCKB.out.m 0
  go_wp2_with (fail)
  refine bodyPost_ret (results_none rfl _ _ _) rfl ?_
  exact ⟨⟨_, rfl⟩, HCKB.out.setM true, HBB.out.setCell (p := ⟨g.m, 0, none⟩) HCKB.out.hm _, HKB.out.setCell (p := ⟨g.m, 0, none⟩) (.inl (.inr (.inl rfl))) _⟩
 by_cases h2 : 200 < d
 ·rw [if_pos (.inr h2)] at h
  obtain rfl := Option.some.inj h
  have b1 : decide (4096 < x.n + 1) = false := decide_eq_false h1
  have b2 : decide (200 < d) = true := decide_eq_true h2
  have m0 : wB.cell? ⟨g.m, 0, none⟩ = some (.bool x.many) := (blk_cell HCKB.out.m 0).trans rfl
  have y0 := blk_frozen HCKB.out.m 0
  go_wp2_with (fail)
  refine bodyPost_ret (results_none rfl _ _ _) rfl ?_
  exact ⟨⟨_, rfl⟩, HCKB.out.setM true, HBB.out.setCell (p := ⟨g.m, 0, none⟩) HCKB.out.hm _, HKB.out.setCell (p := ⟨g.m, 0, none⟩) (.inl (.inr (.inl rfl))) _⟩
 rw [if_neg (fun h => h.elim h1 h2)] at h
 obtain ⟨bb, hbb, h⟩ := Option.bind_eq_some_iff.1 h
 have b1 : decide (4096 < x.n + 1) = false := decide_eq_false h1
 have b2 : decide (200 < d) = false := decide_eq_false h2
 generalize hcc : (cn && (f0 == 3 || f0 == 4 || f0 == 5)) = cc at h
 have HH := Lib.hid h; have HCC := Lib.hid hcc
 clear h hcc h1 h2
 have q0 : wB.cell? ⟨g.b, 0, none⟩ = some (.bool x.bad) := (blk_cell HCKB.out.b 0).trans rfl
 have y0 := blk_frozen HCKB.out.b 0
 have hmain : (x.bad = true ∧ bb = true) ∨ (x.bad = false ∧ cn = false ∧ bb = false) ∨ (x.bad = false ∧ cn = true ∧ Pr.glush_wrong.f k f0 f1 f2 f3 f4 = some bb) := by
  by_cases hbad : x.bad = true
  ·rw [if_pos hbad] at hbb; exact .inl ⟨hbad, (Option.some.inj hbb).symm⟩
  ·rw [if_neg hbad] at hbb
   by_cases hcn : cn = true
   ·rw [if_pos hcn] at hbb; exact .inr (.inr ⟨by simpa using hbad, hcn, hbb⟩)
   ·rw [if_neg hcn] at hbb; exact .inr (.inl ⟨by simpa using hbad, by simpa using hcn, (Option.some.inj hbb).symm⟩)
 clear hbb
 rcases hmain with ⟨hbad, rfl⟩ | ⟨hbad, hcn, rfl⟩ | ⟨hbad, hcn, hwr⟩
 ·rw [hbad] at q0
  go_upto_region 5 with (fail)
  have HCKC := Lib.hid (HCKB.out.setB true); have HBC := Lib.hid (HBB.out.setCell (p := ⟨g.b, 0, none⟩) HCKB.out.hb (.bool true)); have HKC := Lib.hid (HKB.out.setCell (p := ⟨g.b, 0, none⟩) (.inl (.inr (.inr rfl))) (.bool true)); have KXC := Lib.hid (blk_kept KXB.out (ownK wB g ⟨g.b, 0, none⟩ (.inr (.inr rfl)) (.bool true)) (fun h => HNX.out _ h rfl))
  clear n0 q0 y0 b1 b2 hbad HCKB HBB HKB KXB
  generalize wB.setCell ⟨g.b, 0, none⟩ (.bool true) = wC at HCKC HBC HKC KXC ⊢
  have x4 : wC.cell? ⟨w.heap.size, 4, none⟩ = some (.slice A f4.length c) := (blk_cell KXC.out 4).trans rfl
  go_wp2_with (fail)
  clear x4
  go_loopg [31] f4.length (fun kq v31 w' => ∃ (i : Int) (y : Cw), v31 = .int .i64 i ∧ Hid (0 ≤ i ∧ i ≤ f4.length) ∧ Hid (kq = f4.length - i.toNat) ∧ Hid (kidsC (walkC k) (f4.drop i.toNat) (d + 1) cc y = some r) ∧ Hid (Ck w0 w' g y) ∧ Hid (Below w0.heap.size w0 w') ∧ Hid (Kept w w' g.own) ∧ Hid (w'.heap[w.heap.size]? = some (.cells #[.int .i64 f0, .int .i64 f1, .int .i64 f2, .int .i64 f3, .slice A f4.length c] 24 (0, 0))))
  case atStart => exact ⟨0, _, rfl, Lib.hid ⟨Int.le_refl _, by omega⟩, Lib.hid rfl, HH, HCKC, HBC, HKC, KXC⟩
  case round =>
   obtain ⟨i, y, rfl, HIX, HIQ, HIM, HCKi, HBi, HKi, KXi⟩ := hrel
   by_cases hlt : i < f4.length
   ·have hm := HIM.out
    rw [rd_eq f4 i HIX.out.1 hlt] at hm
    unfold kidsC at hm
    obtain ⟨ad, A4, c4, rfl, p0, p1, p2, p3, p4, hq4, hC4⟩ := Pr.at_T24 HC.out i HIX.out.1 hlt
    have p0 := cell_below p0 HBi.out; have p1 := cell_below p1 HBi.out; have p2 := cell_below p2 HBi.out; have p3 := cell_below p3 HBi.out; have p4 := cell_below p4 HBi.out
    generalize Pr.rd_T24 f4 i = q at p0 p1 p2 p3 p4 hq4 hC4 hm
    have HM := Lib.hid hm; have HQ4 := Lib.hid hq4; have HC4 := Lib.hid hC4; have HLT := Lib.hid hlt
    have b2 : decide (i < (f4.length : Int)) = true := decide_eq_true hlt
    have b3 : (0 ≤ i) = True := eq_true HIX.out.1
    have b4 : (i < (f4.length : Int)) = True := eq_true hlt
    clear hm hq4 hC4 hlt
    go_upto_region 8 with (fail)
    clear p0 p1 p2 p3 p4 b2 b3 b4
    have hby := below_alloc (Below.refl wr.heap.size wr) (.cells #[.int .i64 q.f0, .int .i64 q.f1, .int .i64 q.f2, .int .i64 q.f3, .slice A4 q.f4.length c4] 24)
    have KQ : (wr.alloc (.cells #[.int .i64 q.f0, .int .i64 q.f1, .int .i64 q.f2, .int .i64 q.f3, .slice A4 q.f4.length c4] 24)).heap[wr.heap.size]? = some (.cells #[.int .i64 q.f0, .int .i64 q.f1, .int .i64 q.f2, .int .i64 q.f3, .slice A4 q.f4.length c4] 24 (0, 0)) := blk_new wr _
    have HCKq := Lib.hid (HCKi.out.below hby); have HBq := Lib.hid (below_step HBi.out hby); have HKq := Lib.hid (HKi.out.below hby); have KXq := Lib.hid (blk_below KXi.out hby)
    clear hby HCKi HBi HKi KXi
    generalize wr.alloc (.cells #[.int .i64 q.f0, .int .i64 q.f1, .int .i64 q.f2, .int .i64 q.f3, .slice A4 q.f4.length c4] 24) = wq at KQ HCKq HBq HKq KXq ⊢
    generalize wr.heap.size = gq at KQ ⊢
    have KQq := Lib.hid KQ; clear KQ
    have m0 : wq.cell? ⟨g.m, 0, none⟩ = some (.bool y.many) := (blk_cell HCKq.out.m 0).trans rfl
    by_cases hym : y.many = true
    ·have hm := HM.out
     rw [if_pos hym] at hm
     obtain rfl := Option.some.inj hm
     rw [hym] at m0
     go_wp2_with (fail)
     refine bodyPost_ret (results_none rfl _ _ _) rfl ?_
     exact ⟨⟨_, rfl⟩, HCKq.out, HBq.out, HKq.out⟩
    ·have hm := HM.out
     rw [if_neg hym] at hm
     obtain ⟨y2, hy2, hm⟩ := Option.bind_eq_some_iff.1 hm
     have HRE := Lib.hid hm; have HY2 := Lib.hid hy2
     have hyf : y.many = false := by simpa using hym
     rw [hyf] at m0
     clear hm hy2 hym hyf HM
     have x0 : wq.cell? ⟨w.heap.size, 0, none⟩ = some (.int .i64 f0) := (blk_cell KXq.out 0).trans rfl
     have w0_ : wq.cell? ⟨g.w, 0, none⟩ = some g.f := (blk_cell HCKq.out.w 0).trans rfl
     have k0 : wq.cell? ⟨gq, 0, none⟩ = some (.int .i64 q.f0) := (blk_cell KQq.out 0).trans rfl
     have k1 : wq.cell? ⟨gq, 1, none⟩ = some (.int .i64 q.f1) := (blk_cell KQq.out 1).trans rfl
     have k2 : wq.cell? ⟨gq, 2, none⟩ = some (.int .i64 q.f2) := (blk_cell KQq.out 2).trans rfl
     have k3 : wq.cell? ⟨gq, 3, none⟩ = some (.int .i64 q.f3) := (blk_cell KQq.out 3).trans rfl
     have k4 : wq.cell? ⟨gq, 4, none⟩ = some (.slice A4 q.f4.length c4) := (blk_cell KQq.out 4).trans rfl
     unfold Cg.f at w0_
     have hwd : wrap64 (d + 1) = d + 1 := by have := HX.out; unfold wrap64; omega
     have hwi : wrap64 (i + 1) = i + 1 := by have h1 := HLT.out; have h2 := HIX.out.1; have h3 := HC.out.2.1; unfold wrap64; omega
     cases cn
     case false =>
      have hc0 : cc = false := by have := HCC.out; simpa using this.symm
      rw [hc0] at HY2
      go_wp2_with (fail)
      try rw [hwd]
      (with_reducible refine (ih.call w0 wq g q A4 c4 (d + 1) _ y y2 HCKq.out HBq.out HC4.out HQ4.out HY2.out).mono ?_)
      rintro e w3 ⟨⟨v, rfl⟩, hck3, hb3, hk3⟩
      have HCK3 := Lib.hid hck3; have HB3 := Lib.hid hb3; have HK3 := Lib.hid (HKq.out.then_ hk3 (fun q h => .inl h)); have KX3 := Lib.hid (blk_kept KXq.out hk3 (fun h => HNX.out _ h rfl))
      clear hck3 hb3 hk3 HCKq HBq HKq KXq
      go_wp2_with (fail)
      go_roundg (f4.length - (i + 1).toNat)
      case measure => have h1 := HLT.out; have h2 := HIQ.out; have h3 := HIX.out.1; omega
      case rel => exact ⟨i + 1, y2, by first | rfl | rw [hwi], Lib.hid ⟨by have := HIX.out.1; omega, by have := HLT.out; omega⟩, Lib.hid rfl, HRE, HCK3, HB3, HK3, KX3⟩
     case true =>
      by_cases h3 : f0 = 3
      ·have hc0 : cc = true := by have := HCC.out; rw [h3] at this; simpa using this.symm
       have b5 : ((f0 == 3) : Bool) = true := by simpa using h3
       rw [hc0] at HY2
       clear h3
       go_wp2_with (fail)
       try rw [hwd]
       (with_reducible refine (ih.call w0 wq g q A4 c4 (d + 1) _ y y2 HCKq.out HBq.out HC4.out HQ4.out HY2.out).mono ?_)
       rintro e w3 ⟨⟨v, rfl⟩, hck3, hb3, hk3⟩
       have HCK3 := Lib.hid hck3; have HB3 := Lib.hid hb3; have HK3 := Lib.hid (HKq.out.then_ hk3 (fun q h => .inl h)); have KX3 := Lib.hid (blk_kept KXq.out hk3 (fun h => HNX.out _ h rfl))
       clear hck3 hb3 hk3 HCKq HBq HKq KXq
       go_wp2_with (fail)
       go_roundg (f4.length - (i + 1).toNat)
       case measure => have h1 := HLT.out; have h2 := HIQ.out; have h3 := HIX.out.1; omega
       case rel => exact ⟨i + 1, y2, by first | rfl | rw [hwi], Lib.hid ⟨by have := HIX.out.1; omega, by have := HLT.out; omega⟩, Lib.hid rfl, HRE, HCK3, HB3, HK3, KX3⟩
      ·have b5 : ((f0 == 3) : Bool) = false := by simpa using h3
       by_cases h4 : f0 = 4
       ·have hc0 : cc = true := by have := HCC.out; rw [h4] at this; simpa using this.symm
        have b6 : ((f0 == 4) : Bool) = true := by simpa using h4
        rw [hc0] at HY2
        clear h3 h4
        go_wp2_with (fail)
        try rw [hwd]
        (with_reducible refine (ih.call w0 wq g q A4 c4 (d + 1) _ y y2 HCKq.out HBq.out HC4.out HQ4.out HY2.out).mono ?_)
        rintro e w3 ⟨⟨v, rfl⟩, hck3, hb3, hk3⟩
        have HCK3 := Lib.hid hck3; have HB3 := Lib.hid hb3; have HK3 := Lib.hid (HKq.out.then_ hk3 (fun q h => .inl h)); have KX3 := Lib.hid (blk_kept KXq.out hk3 (fun h => HNX.out _ h rfl))
        clear hck3 hb3 hk3 HCKq HBq HKq KXq
        go_wp2_with (fail)
        go_roundg (f4.length - (i + 1).toNat)
        case measure => have h1 := HLT.out; have h2 := HIQ.out; have h3 := HIX.out.1; omega
        case rel => exact ⟨i + 1, y2, by first | rfl | rw [hwi], Lib.hid ⟨by have := HIX.out.1; omega, by have := HLT.out; omega⟩, Lib.hid rfl, HRE, HCK3, HB3, HK3, KX3⟩
       ·have b6 : ((f0 == 4) : Bool) = false := by simpa using h4
        have hc0 : cc = (f0 == 5) := by have := HCC.out; rw [b5, b6] at this; simpa using this.symm
        rw [hc0] at HY2
        clear h3 h4
        go_wp2_with (fail)
        try rw [hwd]
        (with_reducible refine (ih.call w0 wq g q A4 c4 (d + 1) _ y y2 HCKq.out HBq.out HC4.out HQ4.out HY2.out).mono ?_)
        rintro e w3 ⟨⟨v, rfl⟩, hck3, hb3, hk3⟩
        have HCK3 := Lib.hid hck3; have HB3 := Lib.hid hb3; have HK3 := Lib.hid (HKq.out.then_ hk3 (fun q h => .inl h)); have KX3 := Lib.hid (blk_kept KXq.out hk3 (fun h => HNX.out _ h rfl))
        clear hck3 hb3 hk3 HCKq HBq HKq KXq
        go_wp2_with (fail)
        go_roundg (f4.length - (i + 1).toNat)
        case measure => have h1 := HLT.out; have h2 := HIQ.out; have h3 := HIX.out.1; omega
        case rel => exact ⟨i + 1, y2, by first | rfl | rw [hwi], Lib.hid ⟨by have := HIX.out.1; omega, by have := HLT.out; omega⟩, Lib.hid rfl, HRE, HCK3, HB3, HK3, KX3⟩
   ·have hx : i = f4.length := by have := HIX.out.2; omega
    subst hx
    have hm := HIM.out
    rw [Int.toNat_natCast, List.drop_of_length_le (Nat.le_refl _)] at hm
    unfold kidsC at hm
    obtain rfl := Option.some.inj hm
    have b2 : decide ((f4.length : Int) < (f4.length : Int)) = false := decide_eq_false hlt
    clear hm HIM
    go_wp2_with (fail)
    refine bodyPost_end (results_none rfl _ _ _) rfl ?_
    exact ⟨⟨_, rfl⟩, HCKi.out, HBi.out, HKi.out⟩
 ·rw [hbad] at q0
  subst hcn
  go_upto_region 5 with (fail)
  have HCKC := Lib.hid (HCKB.out.setB false); have HBC := Lib.hid (HBB.out.setCell (p := ⟨g.b, 0, none⟩) HCKB.out.hb (.bool false)); have HKC := Lib.hid (HKB.out.setCell (p := ⟨g.b, 0, none⟩) (.inl (.inr (.inr rfl))) (.bool false)); have KXC := Lib.hid (blk_kept KXB.out (ownK wB g ⟨g.b, 0, none⟩ (.inr (.inr rfl)) (.bool false)) (fun h => HNX.out _ h rfl))
  clear n0 q0 y0 b1 b2 hbad HCKB HBB HKB KXB
  generalize wB.setCell ⟨g.b, 0, none⟩ (.bool false) = wC at HCKC HBC HKC KXC ⊢
  have x4 : wC.cell? ⟨w.heap.size, 4, none⟩ = some (.slice A f4.length c) := (blk_cell KXC.out 4).trans rfl
  go_wp2_with (fail)
  clear x4
  go_loopg [31] f4.length (fun kq v31 w' => ∃ (i : Int) (y : Cw), v31 = .int .i64 i ∧ Hid (0 ≤ i ∧ i ≤ f4.length) ∧ Hid (kq = f4.length - i.toNat) ∧ Hid (kidsC (walkC k) (f4.drop i.toNat) (d + 1) cc y = some r) ∧ Hid (Ck w0 w' g y) ∧ Hid (Below w0.heap.size w0 w') ∧ Hid (Kept w w' g.own) ∧ Hid (w'.heap[w.heap.size]? = some (.cells #[.int .i64 f0, .int .i64 f1, .int .i64 f2, .int .i64 f3, .slice A f4.length c] 24 (0, 0))))
  case atStart => exact ⟨0, _, rfl, Lib.hid ⟨Int.le_refl _, by omega⟩, Lib.hid rfl, HH, HCKC, HBC, HKC, KXC⟩
  case round =>
   obtain ⟨i, y, rfl, HIX, HIQ, HIM, HCKi, HBi, HKi, KXi⟩ := hrel
   by_cases hlt : i < f4.length
   ·have hm := HIM.out
    rw [rd_eq f4 i HIX.out.1 hlt] at hm
    unfold kidsC at hm
    obtain ⟨ad, A4, c4, rfl, p0, p1, p2, p3, p4, hq4, hC4⟩ := Pr.at_T24 HC.out i HIX.out.1 hlt
    have p0 := cell_below p0 HBi.out; have p1 := cell_below p1 HBi.out; have p2 := cell_below p2 HBi.out; have p3 := cell_below p3 HBi.out; have p4 := cell_below p4 HBi.out
    generalize Pr.rd_T24 f4 i = q at p0 p1 p2 p3 p4 hq4 hC4 hm
    have HM := Lib.hid hm; have HQ4 := Lib.hid hq4; have HC4 := Lib.hid hC4; have HLT := Lib.hid hlt
    have b2 : decide (i < (f4.length : Int)) = true := decide_eq_true hlt
    have b3 : (0 ≤ i) = True := eq_true HIX.out.1
    have b4 : (i < (f4.length : Int)) = True := eq_true hlt
    clear hm hq4 hC4 hlt
    go_upto_region 8 with (fail)
    clear p0 p1 p2 p3 p4 b2 b3 b4
    have hby := below_alloc (Below.refl wr.heap.size wr) (.cells #[.int .i64 q.f0, .int .i64 q.f1, .int .i64 q.f2, .int .i64 q.f3, .slice A4 q.f4.length c4] 24)
    have KQ : (wr.alloc (.cells #[.int .i64 q.f0, .int .i64 q.f1, .int .i64 q.f2, .int .i64 q.f3, .slice A4 q.f4.length c4] 24)).heap[wr.heap.size]? = some (.cells #[.int .i64 q.f0, .int .i64 q.f1, .int .i64 q.f2, .int .i64 q.f3, .slice A4 q.f4.length c4] 24 (0, 0)) := blk_new wr _
    have HCKq := Lib.hid (HCKi.out.below hby); have HBq := Lib.hid (below_step HBi.out hby); have HKq := Lib.hid (HKi.out.below hby); have KXq := Lib.hid (blk_below KXi.out hby)
    clear hby HCKi HBi HKi KXi
    generalize wr.alloc (.cells #[.int .i64 q.f0, .int .i64 q.f1, .int .i64 q.f2, .int .i64 q.f3, .slice A4 q.f4.length c4] 24) = wq at KQ HCKq HBq HKq KXq ⊢
    generalize wr.heap.size = gq at KQ ⊢
    have KQq := Lib.hid KQ; clear KQ
    have m0 : wq.cell? ⟨g.m, 0, none⟩ = some (.bool y.many) := (blk_cell HCKq.out.m 0).trans rfl
    by_cases hym : y.many = true
    ·have hm := HM.out
     rw [if_pos hym] at hm
     obtain rfl := Option.some.inj hm
     rw [hym] at m0
     go_wp2_with (fail)
     refine bodyPost_ret (results_none rfl _ _ _) rfl ?_
     exact ⟨⟨_, rfl⟩, HCKq.out, HBq.out, HKq.out⟩
    ·have hm := HM.out
     rw [if_neg hym] at hm
     obtain ⟨y2, hy2, hm⟩ := Option.bind_eq_some_iff.1 hm
     have HRE := Lib.hid hm; have HY2 := Lib.hid hy2
     have hyf : y.many = false := by simpa using hym
     rw [hyf] at m0
     clear hm hy2 hym hyf HM
     have x0 : wq.cell? ⟨w.heap.size, 0, none⟩ = some (.int .i64 f0) := (blk_cell KXq.out 0).trans rfl
     have w0_ : wq.cell? ⟨g.w, 0, none⟩ = some g.f := (blk_cell HCKq.out.w 0).trans rfl
     have k0 : wq.cell? ⟨gq, 0, none⟩ = some (.int .i64 q.f0) := (blk_cell KQq.out 0).trans rfl
     have k1 : wq.cell? ⟨gq, 1, none⟩ = some (.int .i64 q.f1) := (blk_cell KQq.out 1).trans rfl
     have k2 : wq.cell? ⟨gq, 2, none⟩ = some (.int .i64 q.f2) := (blk_cell KQq.out 2).trans rfl
     have k3 : wq.cell? ⟨gq, 3, none⟩ = some (.int .i64 q.f3) := (blk_cell KQq.out 3).trans rfl
     have k4 : wq.cell? ⟨gq, 4, none⟩ = some (.slice A4 q.f4.length c4) := (blk_cell KQq.out 4).trans rfl
     unfold Cg.f at w0_
     have hwd : wrap64 (d + 1) = d + 1 := by have := HX.out; unfold wrap64; omega
     have hwi : wrap64 (i + 1) = i + 1 := by have h1 := HLT.out; have h2 := HIX.out.1; have h3 := HC.out.2.1; unfold wrap64; omega
     have hc0 : cc = false := by have := HCC.out; simpa using this.symm
     rw [hc0] at HY2
     go_wp2_with (fail)
     try rw [hwd]
     (with_reducible refine (ih.call w0 wq g q A4 c4 (d + 1) _ y y2 HCKq.out HBq.out HC4.out HQ4.out HY2.out).mono ?_)
     rintro e w3 ⟨⟨v, rfl⟩, hck3, hb3, hk3⟩
     have HCK3 := Lib.hid hck3; have HB3 := Lib.hid hb3; have HK3 := Lib.hid (HKq.out.then_ hk3 (fun q h => .inl h)); have KX3 := Lib.hid (blk_kept KXq.out hk3 (fun h => HNX.out _ h rfl))
     clear hck3 hb3 hk3 HCKq HBq HKq KXq
     go_wp2_with (fail)
     go_roundg (f4.length - (i + 1).toNat)
     case measure => have h1 := HLT.out; have h2 := HIQ.out; have h3 := HIX.out.1; omega
     case rel => exact ⟨i + 1, y2, by first | rfl | rw [hwi], Lib.hid ⟨by have := HIX.out.1; omega, by have := HLT.out; omega⟩, Lib.hid rfl, HRE, HCK3, HB3, HK3, KX3⟩
   ·have hx : i = f4.length := by have := HIX.out.2; omega
    subst hx
    have hm := HIM.out
    rw [Int.toNat_natCast, List.drop_of_length_le (Nat.le_refl _)] at hm
    unfold kidsC at hm
    obtain rfl := Option.some.inj hm
    have b2 : decide ((f4.length : Int) < (f4.length : Int)) = false := decide_eq_false hlt
    clear hm HIM
    go_wp2_with (fail)
    refine bodyPost_end (results_none rfl _ _ _) rfl ?_
    exact ⟨⟨_, rfl⟩, HCKi.out, HBi.out, HKi.out⟩
 ·rw [hbad] at q0
  subst hcn
  have HWR := Lib.hid hwr; clear hwr
  have x0 : wB.cell? ⟨w.heap.size, 0, none⟩ = some (.int .i64 f0) := (blk_cell KXB.out 0).trans rfl
  have x1 : wB.cell? ⟨w.heap.size, 1, none⟩ = some (.int .i64 f1) := (blk_cell KXB.out 1).trans rfl
  have x2 : wB.cell? ⟨w.heap.size, 2, none⟩ = some (.int .i64 f2) := (blk_cell KXB.out 2).trans rfl
  have x3 : wB.cell? ⟨w.heap.size, 3, none⟩ = some (.int .i64 f3) := (blk_cell KXB.out 3).trans rfl
  have x4 : wB.cell? ⟨w.heap.size, 4, none⟩ = some (.slice A f4.length c) := (blk_cell KXB.out 4).trans rfl
  go_wp2_with (fail)
  clear x0 x1 x2 x3 x4 n0 q0 y0 b1 b2 hbad
  refine (Pr.glush_wrong.calls k f0 f1 f2 f3 A c f4 bb wB (Kd.C_below HC.out HBB.out) Hc.out HWR.out).mono ?_
  rintro e w2 ⟨rfl, hb2⟩
  have HCK2 := Lib.hid (HCKB.out.below hb2); have HB2 := Lib.hid (below_step HBB.out hb2); have HK2 := Lib.hid (HKB.out.below hb2); have KX2 := Lib.hid (blk_below KXB.out hb2)
  clear hb2 HCKB HBB HKB KXB HWR
  have q0 : w2.cell? ⟨g.b, 0, none⟩ = some (.bool x.bad) := (blk_cell HCK2.out.b 0).trans rfl
  have y0 := blk_frozen HCK2.out.b 0
  go_upto_region 5 with (fail)
  have HCKC := Lib.hid (HCK2.out.setB bb); have HBC := Lib.hid (HB2.out.setCell (p := ⟨g.b, 0, none⟩) HCK2.out.hb (.bool bb)); have HKC := Lib.hid (HK2.out.setCell (p := ⟨g.b, 0, none⟩) (.inl (.inr (.inr rfl))) (.bool bb)); have KXC := Lib.hid (blk_kept KX2.out (ownK w2 g ⟨g.b, 0, none⟩ (.inr (.inr rfl)) (.bool bb)) (fun h => HNX.out _ h rfl))
  clear q0 y0 HCK2 HB2 HK2 KX2
  generalize w2.setCell ⟨g.b, 0, none⟩ (.bool bb) = wC at HCKC HBC HKC KXC ⊢
  have x4 : wC.cell? ⟨w.heap.size, 4, none⟩ = some (.slice A f4.length c) := (blk_cell KXC.out 4).trans rfl
  go_wp2_with (fail)
  clear x4
  go_loopg [31] f4.length (fun kq v31 w' => ∃ (i : Int) (y : Cw), v31 = .int .i64 i ∧ Hid (0 ≤ i ∧ i ≤ f4.length) ∧ Hid (kq = f4.length - i.toNat) ∧ Hid (kidsC (walkC k) (f4.drop i.toNat) (d + 1) cc y = some r) ∧ Hid (Ck w0 w' g y) ∧ Hid (Below w0.heap.size w0 w') ∧ Hid (Kept w w' g.own) ∧ Hid (w'.heap[w.heap.size]? = some (.cells #[.int .i64 f0, .int .i64 f1, .int .i64 f2, .int .i64 f3, .slice A f4.length c] 24 (0, 0))))
  case atStart => exact ⟨0, _, rfl, Lib.hid ⟨Int.le_refl _, by omega⟩, Lib.hid rfl, HH, HCKC, HBC, HKC, KXC⟩
  case round =>
   obtain ⟨i, y, rfl, HIX, HIQ, HIM, HCKi, HBi, HKi, KXi⟩ := hrel
   by_cases hlt : i < f4.length
   ·have hm := HIM.out
    rw [rd_eq f4 i HIX.out.1 hlt] at hm
    unfold kidsC at hm
    obtain ⟨ad, A4, c4, rfl, p0, p1, p2, p3, p4, hq4, hC4⟩ := Pr.at_T24 HC.out i HIX.out.1 hlt
    have p0 := cell_below p0 HBi.out; have p1 := cell_below p1 HBi.out; have p2 := cell_below p2 HBi.out; have p3 := cell_below p3 HBi.out; have p4 := cell_below p4 HBi.out
    generalize Pr.rd_T24 f4 i = q at p0 p1 p2 p3 p4 hq4 hC4 hm
    have HM := Lib.hid hm; have HQ4 := Lib.hid hq4; have HC4 := Lib.hid hC4; have HLT := Lib.hid hlt
    have b2 : decide (i < (f4.length : Int)) = true := decide_eq_true hlt
    have b3 : (0 ≤ i) = True := eq_true HIX.out.1
    have b4 : (i < (f4.length : Int)) = True := eq_true hlt
    clear hm hq4 hC4 hlt
    go_upto_region 8 with (fail)
    clear p0 p1 p2 p3 p4 b2 b3 b4
    have hby := below_alloc (Below.refl wr.heap.size wr) (.cells #[.int .i64 q.f0, .int .i64 q.f1, .int .i64 q.f2, .int .i64 q.f3, .slice A4 q.f4.length c4] 24)
    have KQ : (wr.alloc (.cells #[.int .i64 q.f0, .int .i64 q.f1, .int .i64 q.f2, .int .i64 q.f3, .slice A4 q.f4.length c4] 24)).heap[wr.heap.size]? = some (.cells #[.int .i64 q.f0, .int .i64 q.f1, .int .i64 q.f2, .int .i64 q.f3, .slice A4 q.f4.length c4] 24 (0, 0)) := blk_new wr _
    have HCKq := Lib.hid (HCKi.out.below hby); have HBq := Lib.hid (below_step HBi.out hby); have HKq := Lib.hid (HKi.out.below hby); have KXq := Lib.hid (blk_below KXi.out hby)
    clear hby HCKi HBi HKi KXi
    generalize wr.alloc (.cells #[.int .i64 q.f0, .int .i64 q.f1, .int .i64 q.f2, .int .i64 q.f3, .slice A4 q.f4.length c4] 24) = wq at KQ HCKq HBq HKq KXq ⊢
    generalize wr.heap.size = gq at KQ ⊢
    have KQq := Lib.hid KQ; clear KQ
    have m0 : wq.cell? ⟨g.m, 0, none⟩ = some (.bool y.many) := (blk_cell HCKq.out.m 0).trans rfl
    by_cases hym : y.many = true
    ·have hm := HM.out
     rw [if_pos hym] at hm
     obtain rfl := Option.some.inj hm
     rw [hym] at m0
     go_wp2_with (fail)
     refine bodyPost_ret (results_none rfl _ _ _) rfl ?_
     exact ⟨⟨_, rfl⟩, HCKq.out, HBq.out, HKq.out⟩
    ·have hm := HM.out
     rw [if_neg hym] at hm
     obtain ⟨y2, hy2, hm⟩ := Option.bind_eq_some_iff.1 hm
     have HRE := Lib.hid hm; have HY2 := Lib.hid hy2
     have hyf : y.many = false := by simpa using hym
     rw [hyf] at m0
     clear hm hy2 hym hyf HM
     have x0 : wq.cell? ⟨w.heap.size, 0, none⟩ = some (.int .i64 f0) := (blk_cell KXq.out 0).trans rfl
     have w0_ : wq.cell? ⟨g.w, 0, none⟩ = some g.f := (blk_cell HCKq.out.w 0).trans rfl
     have k0 : wq.cell? ⟨gq, 0, none⟩ = some (.int .i64 q.f0) := (blk_cell KQq.out 0).trans rfl
     have k1 : wq.cell? ⟨gq, 1, none⟩ = some (.int .i64 q.f1) := (blk_cell KQq.out 1).trans rfl
     have k2 : wq.cell? ⟨gq, 2, none⟩ = some (.int .i64 q.f2) := (blk_cell KQq.out 2).trans rfl
     have k3 : wq.cell? ⟨gq, 3, none⟩ = some (.int .i64 q.f3) := (blk_cell KQq.out 3).trans rfl
     have k4 : wq.cell? ⟨gq, 4, none⟩ = some (.slice A4 q.f4.length c4) := (blk_cell KQq.out 4).trans rfl
     unfold Cg.f at w0_
     have hwd : wrap64 (d + 1) = d + 1 := by have := HX.out; unfold wrap64; omega
     have hwi : wrap64 (i + 1) = i + 1 := by have h1 := HLT.out; have h2 := HIX.out.1; have h3 := HC.out.2.1; unfold wrap64; omega
     by_cases h3 : f0 = 3
     ·have hc0 : cc = true := by have := HCC.out; rw [h3] at this; simpa using this.symm
      have b5 : ((f0 == 3) : Bool) = true := by simpa using h3
      rw [hc0] at HY2
      clear h3
      go_wp2_with (fail)
      try rw [hwd]
      (with_reducible refine (ih.call w0 wq g q A4 c4 (d + 1) _ y y2 HCKq.out HBq.out HC4.out HQ4.out HY2.out).mono ?_)
      rintro e w3 ⟨⟨v, rfl⟩, hck3, hb3, hk3⟩
      have HCK3 := Lib.hid hck3; have HB3 := Lib.hid hb3; have HK3 := Lib.hid (HKq.out.then_ hk3 (fun q h => .inl h)); have KX3 := Lib.hid (blk_kept KXq.out hk3 (fun h => HNX.out _ h rfl))
      clear hck3 hb3 hk3 HCKq HBq HKq KXq
      go_wp2_with (fail)
      go_roundg (f4.length - (i + 1).toNat)
      case measure => have h1 := HLT.out; have h2 := HIQ.out; have h3 := HIX.out.1; omega
      case rel => exact ⟨i + 1, y2, by first | rfl | rw [hwi], Lib.hid ⟨by have := HIX.out.1; omega, by have := HLT.out; omega⟩, Lib.hid rfl, HRE, HCK3, HB3, HK3, KX3⟩
     ·have b5 : ((f0 == 3) : Bool) = false := by simpa using h3
      by_cases h4 : f0 = 4
      ·have hc0 : cc = true := by have := HCC.out; rw [h4] at this; simpa using this.symm
       have b6 : ((f0 == 4) : Bool) = true := by simpa using h4
       rw [hc0] at HY2
       clear h3 h4
       go_wp2_with (fail)
       try rw [hwd]
       (with_reducible refine (ih.call w0 wq g q A4 c4 (d + 1) _ y y2 HCKq.out HBq.out HC4.out HQ4.out HY2.out).mono ?_)
       rintro e w3 ⟨⟨v, rfl⟩, hck3, hb3, hk3⟩
       have HCK3 := Lib.hid hck3; have HB3 := Lib.hid hb3; have HK3 := Lib.hid (HKq.out.then_ hk3 (fun q h => .inl h)); have KX3 := Lib.hid (blk_kept KXq.out hk3 (fun h => HNX.out _ h rfl))
       clear hck3 hb3 hk3 HCKq HBq HKq KXq
       go_wp2_with (fail)
       go_roundg (f4.length - (i + 1).toNat)
       case measure => have h1 := HLT.out; have h2 := HIQ.out; have h3 := HIX.out.1; omega
       case rel => exact ⟨i + 1, y2, by first | rfl | rw [hwi], Lib.hid ⟨by have := HIX.out.1; omega, by have := HLT.out; omega⟩, Lib.hid rfl, HRE, HCK3, HB3, HK3, KX3⟩
      ·have b6 : ((f0 == 4) : Bool) = false := by simpa using h4
       have hc0 : cc = (f0 == 5) := by have := HCC.out; rw [b5, b6] at this; simpa using this.symm
       rw [hc0] at HY2
       clear h3 h4
       go_wp2_with (fail)
       try rw [hwd]
       (with_reducible refine (ih.call w0 wq g q A4 c4 (d + 1) _ y y2 HCKq.out HBq.out HC4.out HQ4.out HY2.out).mono ?_)
       rintro e w3 ⟨⟨v, rfl⟩, hck3, hb3, hk3⟩
       have HCK3 := Lib.hid hck3; have HB3 := Lib.hid hb3; have HK3 := Lib.hid (HKq.out.then_ hk3 (fun q h => .inl h)); have KX3 := Lib.hid (blk_kept KXq.out hk3 (fun h => HNX.out _ h rfl))
       clear hck3 hb3 hk3 HCKq HBq HKq KXq
       go_wp2_with (fail)
       go_roundg (f4.length - (i + 1).toNat)
       case measure => have h1 := HLT.out; have h2 := HIQ.out; have h3 := HIX.out.1; omega
       case rel => exact ⟨i + 1, y2, by first | rfl | rw [hwi], Lib.hid ⟨by have := HIX.out.1; omega, by have := HLT.out; omega⟩, Lib.hid rfl, HRE, HCK3, HB3, HK3, KX3⟩
   ·have hx : i = f4.length := by have := HIX.out.2; omega
    subst hx
    have hm := HIM.out
    rw [Int.toNat_natCast, List.drop_of_length_le (Nat.le_refl _)] at hm
    unfold kidsC at hm
    obtain rfl := Option.some.inj hm
    have b2 : decide ((f4.length : Int) < (f4.length : Int)) = false := decide_eq_false hlt
    clear hm HIM
    go_wp2_with (fail)
    refine bodyPost_end (results_none rfl _ _ _) rfl ?_
    exact ⟨⟨_, rfl⟩, HCKi.out, HBi.out, HKi.out⟩
end Go.Proofs.YthocjdlcopmhiaaDoor.G
namespace Go.Proofs.YthocjdlcopmhiaaDoor.G
open Go.RowKit Go.Proofs.YthocjdlcopmhiaaDoorW.PrintWords Go.Proofs.YthocjdlcopmhiaaDoorW.PrintLast Go.Proofs.YthocjdlcopmhiaaDoorW.PrintMore
attribute [local go_sem] max2_int min2_int max_two min_two max_three min_three max_four min_four
set_option linter.unusedVariables false
set_option linter.unusedSimpArgs false
variable {P : Program} {w : World} {a : Addr} in
@[go_sem] theorem run_store_func_ (fn : Fn) (first captured : Array Value) (m : Mode) : (store a (.func fn first captured) m).run P w = stored P w a (.func fn first captured) m := run_store P w a _ m rfl
theorem kidsC_mono {f f' : Pr.S24 → Int → Bool → Cw → Option Cw} (hf : ∀ e d c x, LeO (f e d c x) (f' e d c x)) : ∀ l d c x, LeO (kidsC f l d c x) (kidsC f' l d c x)
 | [], _, _, _ => fun r h => h
 | e :: l, d, c, x => fun r h => by
  unfold kidsC at h ⊢
  by_cases hm : x.many = true
  ·rw [if_pos hm] at h ⊢; exact h
  ·rw [if_neg hm] at h ⊢
   obtain ⟨y, hy, h⟩ := Option.bind_eq_some_iff.1 h
   exact Option.bind_eq_some_iff.2 ⟨y, hf e d c x y hy, kidsC_mono hf l d c y r h⟩
theorem walkC_mono : ∀ k e d c x, LeO (walkC k e d c x) (walkC (k + 1) e d c x)
 | 0, _, _, _, _ => fun r h => by simp [walkC] at h
 | k + 1, e, d, c, x => fun r h => by
  unfold walkC at h ⊢
  obtain ⟨hg, h⟩ := some_if h
  rw [if_pos hg]
  by_cases h1 : 4096 < x.n + 1 ∨ 200 < d
  ·rw [if_pos h1] at h ⊢; exact h
  ·rw [if_neg h1] at h ⊢
   obtain ⟨b, hb, h⟩ := Option.bind_eq_some_iff.1 h
   refine Option.bind_eq_some_iff.2 ⟨b, ?_, kidsC_mono (walkC_mono k) _ _ _ _ r h⟩
   by_cases h2 : x.bad = true
   ·rw [if_pos h2] at hb ⊢; exact hb
   ·rw [if_neg h2] at hb ⊢
    by_cases h3 : c = true
    ·rw [if_pos h3] at hb ⊢; exact Pr.glush_wrong.mono _ _ _ _ _ k b hb
    ·rw [if_neg h3] at hb ⊢; exact hb
theorem check1_ok : ∀ k, CkOk 15 (walkC k)
 | 0 => fun _ _ _ _ _ _ _ _ _ _ _ _ _ _ h => by simp [walkC] at h
 | k + 1 => check1_step k (check1_ok k)
def glush_Check.f (k : Nat) (a0_0 : Int) (a0_1 : Int) (a0_2 : Int) (a0_3 : Int) (l0_4 : List Pr.S24) : Option Int :=
 (walkC k ⟨a0_0, a0_1, a0_2, a0_3, l0_4⟩ 1 true ⟨0, false, false⟩).bind fun x => some (if x.many = true then 3 else if x.bad = true then 1 else 0)
theorem glush_Check.mono : ∀ a0 a1 a2 a3 a4 k, LeO (glush_Check.f k a0 a1 a2 a3 a4) (glush_Check.f (k + 1) a0 a1 a2 a3 a4) := fun a0 a1 a2 a3 a4 k r h => by
 unfold glush_Check.f at h ⊢
 obtain ⟨x, hx, h⟩ := Option.bind_eq_some_iff.1 h
 exact Option.bind_eq_some_iff.2 ⟨x, walkC_mono k _ _ _ _ x hx, h⟩
set_option maxHeartbeats 8000000 in
set_option maxRecDepth 100000 in
theorem glush_Check.calls (k : Nat) (a0_0 : Int) (a0_1 : Int) (a0_2 : Int) (a0_3 : Int) (A0_4 : Option Addr) (c0_4 : Nat) (l0_4 : List Pr.S24) (r : Int) (w : World) (hr0_4 : Kd.C Pr.k24 w A0_4 l0_4.length l0_4) (hc0_4 : l0_4.length ≤ c0_4) (h : glush_Check.f k a0_0 a0_1 a0_2 a0_3 l0_4 = some r) :
  Calls Tryd.prog 7 #[.agg #[.int .i64 a0_0, .int .i64 a0_1, .int .i64 a0_2, .int .i64 a0_3, .slice A0_4 l0_4.length c0_4]] w fun e w' => e = .returned (.int .i64 r) ∧ Below w.heap.size w w' := by
 have hu24 := Tryd.underlying24
 unfold glush_Check.f at h
 obtain ⟨x, hx, h⟩ := Option.bind_eq_some_iff.1 h
 have HX := Lib.hid hx; have HC := Lib.hid hr0_4; have Hc := Lib.hid hc0_4
 clear hx hr0_4 hc0_4
 have hr := Option.some.inj h
 clear h
 go_enter Tryd.func7, Tryd.ntmps7
 go_wp2_with (fail)
 have hby := below_alloc (below_alloc (below_alloc (below_alloc (below_alloc (Below.refl w.heap.size w) (.cells #[.int .i64 a0_0, .int .i64 a0_1, .int .i64 a0_2, .int .i64 a0_3, .slice A0_4 l0_4.length c0_4] 24)) (.cells #[.int .i64 0] 3)) (.cells #[.bool false] 4)) (.cells #[.bool false] 4)) (.cells #[Cg.f (⟨w.heap.size + 1, w.heap.size + 1 + 1, w.heap.size + 1 + 1 + 1, w.heap.size + 1 + 1 + 1 + 1⟩ : Cg)] 41)
 have hck : Ck w (((((w.alloc (.cells #[.int .i64 a0_0, .int .i64 a0_1, .int .i64 a0_2, .int .i64 a0_3, .slice A0_4 l0_4.length c0_4] 24)).alloc (.cells #[.int .i64 0] 3)).alloc (.cells #[.bool false] 4)).alloc (.cells #[.bool false] 4)).alloc (.cells #[Cg.f (⟨w.heap.size + 1, w.heap.size + 1 + 1, w.heap.size + 1 + 1 + 1, w.heap.size + 1 + 1 + 1 + 1⟩ : Cg)] 41)) (⟨w.heap.size + 1, w.heap.size + 1 + 1, w.heap.size + 1 + 1 + 1, w.heap.size + 1 + 1 + 1 + 1⟩ : Cg) ⟨0, false, false⟩ := by
  refine ⟨?_, ?_, ?_, ?_, Nat.le_add_right _ 1, Nat.le_add_right _ 2, Nat.le_add_right _ 3, by show w.heap.size + 1 + 1 ≠ w.heap.size + 1 + 1 + 1; omega⟩
  ·have := blk_alloc (blk_alloc (blk_alloc (blk_new (w.alloc (.cells #[.int .i64 a0_0, .int .i64 a0_1, .int .i64 a0_2, .int .i64 a0_3, .slice A0_4 l0_4.length c0_4] 24)) (.cells #[.int .i64 0] 3)) (.cells #[.bool false] 4)) (.cells #[.bool false] 4)) (.cells #[Cg.f (⟨w.heap.size + 1, w.heap.size + 1 + 1, w.heap.size + 1 + 1 + 1, w.heap.size + 1 + 1 + 1 + 1⟩ : Cg)] 41); simpa using this
  ·have := blk_alloc (blk_alloc (blk_new ((w.alloc (.cells #[.int .i64 a0_0, .int .i64 a0_1, .int .i64 a0_2, .int .i64 a0_3, .slice A0_4 l0_4.length c0_4] 24)).alloc (.cells #[.int .i64 0] 3)) (.cells #[.bool false] 4)) (.cells #[.bool false] 4)) (.cells #[Cg.f (⟨w.heap.size + 1, w.heap.size + 1 + 1, w.heap.size + 1 + 1 + 1, w.heap.size + 1 + 1 + 1 + 1⟩ : Cg)] 41); simpa using this
  ·have := blk_alloc (blk_new (((w.alloc (.cells #[.int .i64 a0_0, .int .i64 a0_1, .int .i64 a0_2, .int .i64 a0_3, .slice A0_4 l0_4.length c0_4] 24)).alloc (.cells #[.int .i64 0] 3)).alloc (.cells #[.bool false] 4)) (.cells #[.bool false] 4)) (.cells #[Cg.f (⟨w.heap.size + 1, w.heap.size + 1 + 1, w.heap.size + 1 + 1 + 1, w.heap.size + 1 + 1 + 1 + 1⟩ : Cg)] 41); simpa using this
  ·have := blk_new ((((w.alloc (.cells #[.int .i64 a0_0, .int .i64 a0_1, .int .i64 a0_2, .int .i64 a0_3, .slice A0_4 l0_4.length c0_4] 24)).alloc (.cells #[.int .i64 0] 3)).alloc (.cells #[.bool false] 4)).alloc (.cells #[.bool false] 4)) (.cells #[Cg.f (⟨w.heap.size + 1, w.heap.size + 1 + 1, w.heap.size + 1 + 1 + 1, w.heap.size + 1 + 1 + 1 + 1⟩ : Cg)] 41); simpa using this
 have HCK := Lib.hid hck; have HB := Lib.hid hby
 clear hck hby
 unfold Cg.f at HCK HB
 dsimp only at HCK HB
 show Calls _ _ _ ((((((w.alloc (.cells #[.int .i64 a0_0, .int .i64 a0_1, .int .i64 a0_2, .int .i64 a0_3, .slice A0_4 l0_4.length c0_4] 24)).alloc (.cells #[.int .i64 0] 3)).alloc (.cells #[.bool false] 4)).alloc (.cells #[.bool false] 4)).alloc (.cells #[.func (.func 15) #[] #[.pointer (some ⟨w.heap.size + 1, 0, none⟩), .pointer (some ⟨w.heap.size + 1 + 1, 0, none⟩), .pointer (some ⟨w.heap.size + 1 + 1 + 1, 0, none⟩), .pointer (some ⟨w.heap.size + 1 + 1 + 1 + 1, 0, none⟩)]] 41))) _
 generalize (((((w.alloc (.cells #[.int .i64 a0_0, .int .i64 a0_1, .int .i64 a0_2, .int .i64 a0_3, .slice A0_4 l0_4.length c0_4] 24)).alloc (.cells #[.int .i64 0] 3)).alloc (.cells #[.bool false] 4)).alloc (.cells #[.bool false] 4)).alloc (.cells #[.func (.func 15) #[] #[.pointer (some ⟨w.heap.size + 1, 0, none⟩), .pointer (some ⟨w.heap.size + 1 + 1, 0, none⟩), .pointer (some ⟨w.heap.size + 1 + 1 + 1, 0, none⟩), .pointer (some ⟨w.heap.size + 1 + 1 + 1 + 1, 0, none⟩)]] 41)) = wA at HCK HB ⊢
 refine (CkOk.call (check1_ok k) w wA (⟨w.heap.size + 1, w.heap.size + 1 + 1, w.heap.size + 1 + 1 + 1, w.heap.size + 1 + 1 + 1 + 1⟩ : Cg) ⟨a0_0, a0_1, a0_2, a0_3, l0_4⟩ A0_4 c0_4 1 true ⟨0, false, false⟩ x HCK.out HB.out HC.out Hc.out HX.out).mono ?_
 rintro e w2 ⟨⟨v, rfl⟩, hck2, hb2, _⟩
 have m0 : w2.cell? ⟨w.heap.size + 1 + 1, 0, none⟩ = some (.bool x.many) := (blk_cell hck2.m 0).trans rfl
 have b0 : w2.cell? ⟨w.heap.size + 1 + 1 + 1, 0, none⟩ = some (.bool x.bad) := (blk_cell hck2.b 0).trans rfl
 have HB2 := Lib.hid hb2
 clear hck2 hb2
 by_cases h1 : x.many = true
 ·rw [if_pos h1] at hr
  rw [h1] at m0
  go_wp2_with (fail)
  refine bodyPost_ret (results_tmp rfl _ _ _) rfl ?_
  exact ⟨by rw [← hr]; rfl, HB2.out⟩
 ·rw [if_neg h1] at hr
  have h1f : x.many = false := by simpa using h1
  rw [h1f] at m0
  by_cases h2 : x.bad = true
  ·rw [if_pos h2] at hr
   rw [h2] at b0
   go_wp2_with (fail)
   refine bodyPost_ret (results_tmp rfl _ _ _) rfl ?_
   exact ⟨by rw [← hr]; rfl, HB2.out⟩
  ·rw [if_neg h2] at hr
   have h2f : x.bad = false := by simpa using h2
   rw [h2f] at b0
   go_wp2_with (fail)
   refine bodyPost_ret (results_tmp rfl _ _ _) rfl ?_
   exact ⟨by rw [← hr]; rfl, HB2.out⟩
end Go.Proofs.YthocjdlcopmhiaaDoor.G
namespace Go.Proofs.YthocjdlcopmhiaaDoor.G
open Go.RowKit Go.Proofs.YthocjdlcopmhiaaDoorW.PrintWords Go.Proofs.YthocjdlcopmhiaaDoorW.PrintLast Go.Proofs.YthocjdlcopmhiaaDoorW.PrintMore
attribute [local go_sem] max2_int min2_int max_two min_two max_three min_three max_four min_four
set_option linter.unusedVariables false
set_option linter.unusedSimpArgs false
open GP (Cat Eps Pow)
mutual
def szE : Pr.S24 → Nat
 | ⟨_, _, _, _, l⟩ => 1 + szL l
def szL : List Pr.S24 → Nat
 | [] => 0
 | x :: l => szE x + szL l
end
theorem szE_eq (x : Pr.S24) : szE x = 1 + szL x.f4 := by cases x; simp only [szE]
theorem szE_pos (x : Pr.S24) : 0 < szE x := by rw [szE_eq]; omega
theorem szL_mem : ∀ {l : List Pr.S24} {y : Pr.S24}, y ∈ l → szE y ≤ szL l
 | [], y, h => by cases h
 | x :: l, y, h => by
  simp only [szL]
  rcases List.mem_cons.1 h with rfl | h
  ·omega
  ·have := szL_mem h; omega
theorem wrong_false {k : Nat} {x : Pr.S24} (h : Pr.glush_wrong.f k x.f0 x.f1 x.f2 x.f3 x.f4 = some false) : x.f0 = 5 → x.f4.length = 1 ∧ 0 ≤ x.f2 ∧ x.f2 ≤ 1000 ∧ (x.f3 = -1 ∨ x.f2 ≤ x.f3) ∧ x.f3 ≤ 1000 := fun h5 => by
 unfold Pr.glush_wrong.f at h
 rw [h5] at h
 cases k with
 | zero => simp [Pr.glush_wrong.j0] at h
 | succ k =>
  simp only [Pr.glush_wrong.j0, show ((5 : Int) = 1) = False by decide, show ((5 : Int) = 6) = False by decide, show ((5 : Int) = 3) = False by decide, show ((5 : Int) == 4) = false by decide, show ((5 : Int) = 2) = False by decide, if_false, if_true, Bool.false_eq_true] at h
  split at h
  ·split at h
   ·cases h
   ·split at h
    ·cases h
    ·split at h
     ·exact ⟨by omega, by omega, by omega, .inl (by assumption), by omega⟩
     ·split at h
      ·cases h
      ·have h6 := of_decide_eq_false (Option.some.inj h)
       exact ⟨by omega, by omega, by omega, .inr (by omega), by omega⟩
  ·cases h
structure WalkRes (x : Cw) (e : Pr.S24) (c : Bool) (y : Cw) : Prop where
 many : x.many = false
 n : y.n = x.n + szE e
 le : y.n ≤ 4096
 wf : y.bad = false → x.bad = false ∧ (c = true → Wf e)
structure KidsRes (x : Cw) (l : List Pr.S24) (c : Bool) (y : Cw) : Prop where
 many : x.many = false
 n : y.n = x.n + szL l
 le : x.n ≤ 4096 → y.n ≤ 4096
 wf : y.bad = false → x.bad = false ∧ (c = true → ∀ e ∈ l, Wf e)
theorem kidsC_res {f : Pr.S24 → Int → Bool → Cw → Option Cw} (hf : ∀ e d c x y, f e d c x = some y → y.many = false → WalkRes x e c y) : ∀ (l : List Pr.S24) (d : Int) (c : Bool) (x y : Cw), kidsC f l d c x = some y → y.many = false → KidsRes x l c y
 | [], d, c, x, y, h, hy => by
  unfold kidsC at h
  obtain rfl := Option.some.inj h
  exact ⟨hy, by simp [szL], id, fun hb => ⟨hb, fun _ e he => by cases he⟩⟩
 | e :: l, d, c, x, y, h, hy => by
  unfold kidsC at h
  by_cases hm : x.many = true
  ·rw [if_pos hm] at h
   obtain rfl := Option.some.inj h
   rw [hm] at hy
   cases hy
  ·rw [if_neg hm] at h
   obtain ⟨z, hz, h⟩ := Option.bind_eq_some_iff.1 h
   have h2 := kidsC_res hf l d c z y h hy
   have h1 := hf e d c x z hz h2.many
   refine ⟨h1.many, by rw [h2.n, h1.n]; simp only [szL]; omega, fun _ => h2.le h1.le, fun hb => ?_⟩
   obtain ⟨b1, b2⟩ := h2.wf hb
   obtain ⟨b3, b4⟩ := h1.wf b1
   refine ⟨b3, fun hc e' he => ?_⟩
   rcases List.mem_cons.1 he with rfl | he
   ·exact b4 hc
   ·exact b2 hc e' he
theorem walkC_res : ∀ (k : Nat) (e : Pr.S24) (d : Int) (c : Bool) (x y : Cw), walkC k e d c x = some y → y.many = false → WalkRes x e c y
 | 0, e, d, c, x, y, h, _ => by simp [walkC] at h
 | k + 1, e, d, c, x, y, h, hy => by
  unfold walkC at h
  obtain ⟨hg, h⟩ := some_if h
  by_cases h1 : 4096 < x.n + 1 ∨ 200 < d
  ·rw [if_pos h1] at h
   obtain rfl := Option.some.inj h
   cases hy
  ·rw [if_neg h1] at h
   obtain ⟨b, hb, h⟩ := Option.bind_eq_some_iff.1 h
   have h2 := kidsC_res (walkC_res k) _ _ _ _ _ h hy
   refine ⟨h2.many, by rw [h2.n, szE_eq]; show x.n + 1 + _ = _; omega, h2.le (by show x.n + 1 ≤ 4096; omega), fun hbad => ?_⟩
   obtain ⟨b1, b2⟩ := h2.wf hbad
   have b1' : b = false := b1
   subst b1'
   have hxb : x.bad = false := by
    cases hx : x.bad with
    | false => rfl
    | true => rw [hx, if_pos rfl] at hb; cases hb
   refine ⟨hxb, fun hc => ?_⟩
   rw [hxb, if_neg (by simp), if_pos hc] at hb
   refine Wf.mk e (wrong_false hb) (fun hk => b2 ?_)
   rw [hc]
   rcases hk with hk | hk | hk <;> simp [hk]
theorem check_res {k : Nat} {e : Pr.S24} (h : glush_Check.f k e.f0 e.f1 e.f2 e.f3 e.f4 = some 0) : Wf e ∧ szE e ≤ 4096 := by
 unfold glush_Check.f at h
 obtain ⟨y, hy, h⟩ := Option.bind_eq_some_iff.1 h
 have h := Option.some.inj h
 have hm : y.many = false := by
  cases hx : y.many with
  | false => rfl
  | true => rw [hx, if_pos rfl] at h; cases h
 rw [hm, if_neg (by simp)] at h
 have hb : y.bad = false := by
  cases hx : y.bad with
  | false => rfl
  | true => rw [hx, if_pos rfl] at h; cases h
 have hr := walkC_res k e 1 true ⟨0, false, false⟩ y (by cases e; exact hy) hm
 refine ⟨(hr.wf hb).2 rfl, ?_⟩
 have h1 := hr.n
 have h2 := hr.le
 have h3 : (⟨0, false, false⟩ : Cw).n = 0 := rfl
 rw [h3] at h1
 omega
end Go.Proofs.YthocjdlcopmhiaaDoor.G
