import Derived.Test.YtfpedicgeepikaaProg
import Derived.Below
import Derived.Deep.Draws
import Derived.Deep.AppendLies
import Derived.Maps.AppendAt
import Derived.OwnWalk
import Derived.Laws.BytesArg
import Derived.Laws.MakeOwn
import Derived.Laws.OwnMore
import Derived.Deep.OwnRows
import Derived.Tactics
import Derived.Lib.ConvBytes
import Derived.Laws.Slices
import Derived.WalkKit
import Derived.KernelRfl
import Derived.RowKit3
import Derived.Deep.LoopGhost
import Derived.Deep.QuietTactic
import Derived.BigQuiet
import Derived.WideLaws
import Derived.Deep.DeepCutAuto
import Derived.Deep.CutBlock
import Derived.Deep.RegionHeld3
import Derived.Laws.Rows
import Derived.Lib.AppendStr
import Derived.ArgAppend
import Derived.Laws.IdiomCopy
import Derived.OrdersHeld
import Derived.Laws.BitsLemmas
import Derived.RowKit
import Derived.Test.YtfpedicgeepikaaWWords
import Derived.Test.YtfpedicgeepikaaWLast
import Derived.Test.YtfpedicgeepikaaWTab
import Derived.Test.YtfpedicgeepikaaWQPut
import Derived.Test.YtfpedicgeepikaaWApart
import Derived.Test.YtfpedicgeepikaaWArr
import Derived.Test.YtfpedicgeepikaaWZeros
import Derived.Test.YtfpedicgeepikaaWFoot
import Derived.Test.YtfpedicgeepikaaWKept
import Derived.Test.YtfpedicgeepikaaWShare
import Derived.Test.YtfpedicgeepikaaWN
import Derived.Test.YtfpedicgeepikaaWRepsOne
import Derived.Test.YtfpedicgeepikaaWGuard
import Derived.Test.YtfpedicgeepikaaWNEv
import Derived.Test.YtfpedicgeepikaaWMore
import Derived.Test.YtfpedicgeepikaaG4
import Derived.Test.YtfpedicgeepikaaG11
import Derived.Test.YtfpedicgeepikaaPrx2
import Derived.Lib.Builder

namespace Go.Proofs.Ytfpedicgeepikaa.G
open Go.RowKit Go.Proofs.YtfpedicgeepikaaW.PrintWords Go.Proofs.YtfpedicgeepikaaW.PrintLast Go.Proofs.YtfpedicgeepikaaW.PrintMore
attribute [local go_sem] max2_int min2_int max_two min_two max_three min_three max_four min_four
set_option linter.unusedVariables false
set_option linter.unusedSimpArgs false

open Go.Proofs.Ytfpedicgeepikaa.Pr
/-! ### calls of a function value -/
section
variable {P : Program} {ops : Array Oper} {Q : Exit → Act → World → Prop}
theorem goesC_ {rest : List Oper} {oi : Oper} {a : Act} {w : World} (N : Option Tmp) (hd : oi.dst = N) (hg : oi.guard = none) {f : FuncId} {fn : Func} {n : Tmp} {aa : Array Operand} {ts : Array TypeId} (caps : Array Value) (hf : P.funcs[f]? = some fn)
    (hname : (fn.name == "runtime.NumGoroutine") = false) (hb : fn.body.isSome = true) (args : Array Value)
    (hop : oi.op = .call { callee := .value (.tmp n), args := aa, argTypes := ts }) (hv : a.eval (.tmp n) = .func (.func f) #[] caps) (hargs : aa.map a.eval ++ caps = args)
    (h : Calls P f args w fun e w' => ∃ v, e = .returned v ∧ wpList P ops Q rest (a.put N v) w') : wpList P ops Q (oi :: rest) a w := by
  refine wpList_plain hg fun K hK => ?_
  have he := enters_ hf hname hb args w
  have hrun : (execOp a.eval oi).run P w = .ok (.enter f args) w := by
    unfold execOp
    simp [hop, resolve, Deferred.ofValue, invoke, hv, hargs, he]
  unfold Oper.wp
  rw [hrun, Oper.upon_enter]
  refine h.mono fun e w'' hh => ?_
  obtain ⟨v, rfl, hk⟩ := hh
  subst hd
  exact hK _ _ hk
end
/-- The cells of a wildcard in a box. -/
def boxed (p : S26) (A : Option Addr) (c : Nat) : Obj := .cells #[.int .i64 p.f0, .string p.f1, .slice A p.f2.length c, .int .i64 p.f3] 26 (0, 0)
def wild_clBoth.f (k : Nat) (p : S26 × S26) (s : ByteArray) : Option Bool := (wild_Allows.f k p.1.f0 p.1.f1 p.1.f2 p.1.f3 s).bind fun t => if t = true then wild_Allows.f k p.2.f0 p.2.f1 p.2.f2 p.2.f3 s else some false
def wild_clUnion.f (k : Nat) (p : S26 × S26) (s : ByteArray) : Option Bool := (wild_Allows.f k p.1.f0 p.1.f1 p.1.f2 p.1.f3 s).bind fun t => if t = true then some true else wild_Allows.f k p.2.f0 p.2.f1 p.2.f2 p.2.f3 s
theorem wild_clBoth.mono (p : S26 × S26) (s : ByteArray) (k : Nat) : LeO (wild_clBoth.f k p s) (wild_clBoth.f (k + 1) p s) := by
  unfold wild_clBoth.f
  exact LeO.bind (wild_Allows.mono _ _ _ _ _ _) (fun _ => LeO.ite (wild_Allows.mono _ _ _ _ _ _) (LeO.refl _))
theorem wild_clUnion.mono (p : S26 × S26) (s : ByteArray) (k : Nat) : LeO (wild_clUnion.f k p s) (wild_clUnion.f (k + 1) p s) := by
  unfold wild_clUnion.f
  exact LeO.bind (wild_Allows.mono _ _ _ _ _ _) (fun _ => LeO.ite (LeO.refl _) (wild_Allows.mono _ _ _ _ _ _))
set_option maxHeartbeats 4000000 in
theorem wild_clBoth.calls (k : Nat) (ga gb : Nat) (A B : Option Addr) (c d : Nat) (p : S26 × S26) (s : ByteArray) (r : Bool) (w : World) (hga : w.heap[ga]? = some (boxed p.1 A c)) (hgb : w.heap[gb]? = some (boxed p.2 B d))
    (hra : Kd.C Kd.string w A p.1.f2.length p.1.f2) (hca : p.1.f2.length ≤ c) (hrb : Kd.C Kd.string w B p.2.f2.length p.2.f2) (hcb : p.2.f2.length ≤ d) (h : wild_clBoth.f k p s = some r) :
    Calls Try.prog 32 #[.string s, .pointer (some ⟨ga, 0, none⟩), .pointer (some ⟨gb, 0, none⟩)] w fun e w' => e = .returned (.bool r) ∧ Below w.heap.size w w' := by
  obtain ⟨⟨p0, p1, p2, p3⟩, ⟨q0, q1, q2, q3⟩⟩ := p
  unfold wild_clBoth.f at h
  obtain ⟨t, h1, h⟩ := Option.bind_eq_some_iff.mp h
  simp only [boxed] at *
  have H1 := Aside0.mk h1
  have H := Aside0.mk h
  have HA := Aside0.mk hra
  have HB := Aside0.mk hrb
  have BB := Aside0.mk hgb
  have a0 : w.cell? ⟨ga, 0, none⟩ = some (.int .i64 p0) := by rw [Lib.cell_of_heap hga]; rfl
  have a1 : w.cell? ⟨ga, 1, none⟩ = some (.string p1) := by rw [Lib.cell_of_heap hga]; rfl
  have a2 : w.cell? ⟨ga, 2, none⟩ = some (.slice A p2.length c) := by rw [Lib.cell_of_heap hga]; rfl
  have a3 : w.cell? ⟨ga, 3, none⟩ = some (.int .i64 p3) := by rw [Lib.cell_of_heap hga]; rfl
  have u26 := Try.underlying26
  clear h h1 hga hgb hra hrb
  go_enter Try.func32, Try.ntmps32
  go_wp2_with fail
  refine (wild_Allows.calls k p0 p1 A c p2 p3 s t _ HA.out hca H1.out).mono ?_
  rintro e w1 ⟨rfl, hb1⟩
  have hgb1 := blk_below BB.out hb1
  have b0 : w1.cell? ⟨gb, 0, none⟩ = some (.int .i64 q0) := by rw [Lib.cell_of_heap hgb1]; rfl
  have b1 : w1.cell? ⟨gb, 1, none⟩ = some (.string q1) := by rw [Lib.cell_of_heap hgb1]; rfl
  have b2 : w1.cell? ⟨gb, 2, none⟩ = some (.slice B q2.length d) := by rw [Lib.cell_of_heap hgb1]; rfl
  have b3 : w1.cell? ⟨gb, 3, none⟩ = some (.int .i64 q3) := by rw [Lib.cell_of_heap hgb1]; rfl
  have HB1 := Aside0.mk hb1
  clear hb1 hgb1 a0 a1 a2 a3
  cases t with
  | true =>
    have H2 := Aside0.mk (show wild_Allows.f k q0 q1 q2 q3 s = some r from H.out)
    go_wp2_with fail
    refine (wild_Allows.calls k q0 q1 B d q2 q3 s r _ (Kd.C_below HB.out HB1.out) hcb H2.out).mono ?_
    rintro e w2 ⟨rfl, hb2⟩
    have HB2 := Aside0.mk hb2
    clear hb2
    go_wp2
    go_ret
    exact ⟨rfl, HB1.out.trans (HB2.out.mono HB1.out.size)⟩
  | false =>
    have H2 := Aside0.mk (show some false = some r from H.out)
    go_wp2
    go_ret
    exact ⟨by rw [Option.some.inj H2.out]; rfl, HB1.out⟩
set_option maxHeartbeats 4000000 in
theorem wild_clUnion.calls (k : Nat) (ga gb : Nat) (A B : Option Addr) (c d : Nat) (p : S26 × S26) (s : ByteArray) (r : Bool) (w : World) (hga : w.heap[ga]? = some (boxed p.1 A c)) (hgb : w.heap[gb]? = some (boxed p.2 B d))
    (hra : Kd.C Kd.string w A p.1.f2.length p.1.f2) (hca : p.1.f2.length ≤ c) (hrb : Kd.C Kd.string w B p.2.f2.length p.2.f2) (hcb : p.2.f2.length ≤ d) (h : wild_clUnion.f k p s = some r) :
    Calls Try.prog 29 #[.string s, .pointer (some ⟨ga, 0, none⟩), .pointer (some ⟨gb, 0, none⟩)] w fun e w' => e = .returned (.bool r) ∧ Below w.heap.size w w' := by
  obtain ⟨⟨p0, p1, p2, p3⟩, ⟨q0, q1, q2, q3⟩⟩ := p
  unfold wild_clUnion.f at h
  obtain ⟨t, h1, h⟩ := Option.bind_eq_some_iff.mp h
  simp only [boxed] at *
  have H1 := Aside0.mk h1
  have H := Aside0.mk h
  have HA := Aside0.mk hra
  have HB := Aside0.mk hrb
  have BB := Aside0.mk hgb
  have a0 : w.cell? ⟨ga, 0, none⟩ = some (.int .i64 p0) := by rw [Lib.cell_of_heap hga]; rfl
  have a1 : w.cell? ⟨ga, 1, none⟩ = some (.string p1) := by rw [Lib.cell_of_heap hga]; rfl
  have a2 : w.cell? ⟨ga, 2, none⟩ = some (.slice A p2.length c) := by rw [Lib.cell_of_heap hga]; rfl
  have a3 : w.cell? ⟨ga, 3, none⟩ = some (.int .i64 p3) := by rw [Lib.cell_of_heap hga]; rfl
  have u26 := Try.underlying26
  clear h h1 hga hgb hra hrb
  go_enter Try.func29, Try.ntmps29
  go_wp2_with fail
  refine (wild_Allows.calls k p0 p1 A c p2 p3 s t _ HA.out hca H1.out).mono ?_
  rintro e w1 ⟨rfl, hb1⟩
  have hgb1 := blk_below BB.out hb1
  have b0 : w1.cell? ⟨gb, 0, none⟩ = some (.int .i64 q0) := by rw [Lib.cell_of_heap hgb1]; rfl
  have b1 : w1.cell? ⟨gb, 1, none⟩ = some (.string q1) := by rw [Lib.cell_of_heap hgb1]; rfl
  have b2 : w1.cell? ⟨gb, 2, none⟩ = some (.slice B q2.length d) := by rw [Lib.cell_of_heap hgb1]; rfl
  have b3 : w1.cell? ⟨gb, 3, none⟩ = some (.int .i64 q3) := by rw [Lib.cell_of_heap hgb1]; rfl
  have HB1 := Aside0.mk hb1
  clear hb1 hgb1 a0 a1 a2 a3
  cases t with
  | true =>
    have H2 := Aside0.mk (show some true = some r from H.out)
    go_wp2
    go_ret
    exact ⟨by rw [Option.some.inj H2.out]; rfl, HB1.out⟩
  | false =>
    have H2 := Aside0.mk (show wild_Allows.f k q0 q1 q2 q3 s = some r from H.out)
    go_wp2_with fail
    refine (wild_Allows.calls k q0 q1 B d q2 q3 s r _ (Kd.C_below HB.out HB1.out) hcb H2.out).mono ?_
    rintro e w2 ⟨rfl, hb2⟩
    have HB2 := Aside0.mk hb2
    clear hb2
    go_wp2
    go_ret
    exact ⟨rfl, HB1.out.trans (HB2.out.mono HB1.out.size)⟩

end Go.Proofs.Ytfpedicgeepikaa.G
