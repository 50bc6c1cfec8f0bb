import Derived.Test.YtehaonhgbmlmnaaDoorProg
import Derived.Below
import Derived.Deep.Draws
import Derived.Deep.AppendLies
import Derived.Maps.AppendAt
import Derived.OwnWalk
import Derived.Laws.BytesArg
import Derived.Laws.MakeOwn
import Derived.Laws.OwnMore
import Derived.Deep.OwnRows
import Derived.Tactics
import Derived.Lib.ConvBytes
import Derived.Laws.Slices
import Derived.WalkKit
import Derived.KernelRfl
import Derived.RowKit3
import Derived.Deep.LoopGhost
import Derived.Deep.QuietTactic
import Derived.BigQuiet
import Derived.WideLaws
import Derived.Deep.DeepCutAuto
import Derived.Deep.CutBlock
import Derived.Deep.RegionHeld3
import Derived.Laws.Rows
import Derived.Lib.AppendStr
import Derived.ArgAppend
import Derived.Laws.IdiomCopy
import Derived.OrdersHeld
import Derived.Laws.BitsLemmas
import Derived.RowKit
import Derived.Test.YtehaonhgbmlmnaaDoorS2
import Derived.Test.YtehaonhgbmlmnaaDoorWWords
import Derived.Test.YtehaonhgbmlmnaaDoorWLast
import Derived.Test.YtehaonhgbmlmnaaDoorWTab
import Derived.Test.YtehaonhgbmlmnaaDoorWQPut
import Derived.Test.YtehaonhgbmlmnaaDoorWApart
import Derived.Test.YtehaonhgbmlmnaaDoorWArr
import Derived.Test.YtehaonhgbmlmnaaDoorWZeros
import Derived.Test.YtehaonhgbmlmnaaDoorWFoot
import Derived.Test.YtehaonhgbmlmnaaDoorWKept
import Derived.Test.YtehaonhgbmlmnaaDoorWShare
import Derived.Test.YtehaonhgbmlmnaaDoorWN
import Derived.Test.YtehaonhgbmlmnaaDoorWRepsOne
import Derived.Test.YtehaonhgbmlmnaaDoorWGuard
import Derived.Test.YtehaonhgbmlmnaaDoorWNEv
import Derived.Test.YtehaonhgbmlmnaaDoorWMore
import Derived.Test.YtehaonhgbmlmnaaDoorWEqStruct
import Derived.Test.YtehaonhgbmlmnaaDoorWInv
import Derived.Test.YtehaonhgbmlmnaaDoorWInvWords
import Derived.Test.YtehaonhgbmlmnaaDoorG2
import Derived.Test.YtehaonhgbmlmnaaDoorPrx5

namespace Go.Proofs.YtehaonhgbmlmnaaDoor.G
open Go.RowKit Go.Proofs.YtehaonhgbmlmnaaDoorW.PrintWords Go.Proofs.YtehaonhgbmlmnaaDoorW.PrintLast Go.Proofs.YtehaonhgbmlmnaaDoorW.PrintMore
attribute [local go_sem] max2_int min2_int max_two min_two max_three min_three max_four min_four
set_option linter.unusedVariables false
set_option linter.unusedSimpArgs false

/-! ### date.Parse -/
def fieldsOf (k : Int) : List Fld :=
  if k = 1 then [.year, .dash, .month, .dash, .day, .sharp, .clock]
  else if k = 2 then [.year, .dash, .month, .dash, .day]
  else if k = 3 then [.clock]
  else if k = 4 then [.year, .dash, .month]
  else if k = 5 then [.year]
  else if k = 6 then [.dash, .dash, .month, .dash, .day]
  else if k = 7 then [.dash, .dash, .dash, .day]
  else if k = 8 then [.dash, .dash, .month]
  else []
def run (K : Nat) : List Fld → St → Option St
  | [], x => some x
  | f :: l, x => (step K f x).bind (run K l)
def date_Parse.f (K : Nat) (a0 : Int) (a1 : ByteArray) : Option (Int × Int × Int × Int × Int × Int × Bool × Int × Int) :=
  if a0 < 1 then some (0, 0, 0, 0, 0, 0, false, 0, 1) else if a0 > 8 then some (0, 0, 0, 0, 0, 0, false, 0, 1) else
  (run K (fieldsOf a0) ⟨a1, false, 2000, 1, 1, 0, 0, false⟩).bind fun x => (Pr.date_reader_zone.f K x.s x.bad).bind fun z =>
  if z.2.2.2 = true then some (0, 0, 0, 0, 0, 0, false, 0, 2) else if ¬ z.2.2.1.toList = [] then some (0, 0, 0, 0, 0, 0, false, 0, 2) else
  (Pr.date_Length.f K x.y x.mo).bind fun L => if x.d > L then some (0, 0, 0, 0, 0, 0, false, 0, 2) else
  if x.fin = true ∧ a0 = 1 then (Pr.date_Add.f K a0 x.y x.mo x.d x.sec x.nano z.1 z.2.1 0 86400 0).bind fun r => some (r.1, r.2.1, r.2.2.1, r.2.2.2.1, r.2.2.2.2.1, r.2.2.2.2.2.1, r.2.2.2.2.2.2.1, r.2.2.2.2.2.2.2, 0)
  else some (a0, x.y, x.mo, x.d, x.sec, x.nano, z.1, z.2.1, 0)
/-- Behind the call's first rows: its blocks. -/
theorem Inv.alloc {k : Int} {g : Gs} {w0 w : World} {x : St} (h : Inv k g w0 w x) (o : Obj) : Inv k g w0 (w.alloc o) x :=
  ⟨h.r.alloc o, blk_alloc h.p o, blk_alloc h.m o, blk_alloc h.e o, h.gm, h.ge⟩
theorem start_blocks (w : World) (a0 : Int) (a1 : ByteArray) :
    Inv a0 ⟨w.heap.size + 1, w.heap.size + 1 + 1, w.heap.size + 1 + 1 + 1, w.heap.size + 1 + 1 + 1 + 1⟩ w (((((w.alloc (.cells #[.int .i64 0, .int .i64 0, .int .i64 0, .int .i64 0, .int .i64 0, .int .i64 0, .bool false, .int .i64 0] 24)).alloc (.cells #[.string a1, .bool false] 48)).alloc (.cells #[.pointer (some ⟨w.heap.size + 1, 0, none⟩)] 46)).alloc (.cells #[.int .i64 a0, .int .i64 2000, .int .i64 1, .int .i64 1, .int .i64 0, .int .i64 0, .bool false, .int .i64 0] 24)).alloc (.cells #[.bool false] 4)) ⟨a1, false, 2000, 1, 1, 0, 0, false⟩ ∧
    (((((w.alloc (.cells #[.int .i64 0, .int .i64 0, .int .i64 0, .int .i64 0, .int .i64 0, .int .i64 0, .bool false, .int .i64 0] 24)).alloc (.cells #[.string a1, .bool false] 48)).alloc (.cells #[.pointer (some ⟨w.heap.size + 1, 0, none⟩)] 46)).alloc (.cells #[.int .i64 a0, .int .i64 2000, .int .i64 1, .int .i64 1, .int .i64 0, .int .i64 0, .bool false, .int .i64 0] 24)).alloc (.cells #[.bool false] 4)).heap[w.heap.size]? = some (.cells #[.int .i64 0, .int .i64 0, .int .i64 0, .int .i64 0, .int .i64 0, .int .i64 0, .bool false, .int .i64 0] 24 (0, 0)) ∧ Below w.heap.size w (((((w.alloc (.cells #[.int .i64 0, .int .i64 0, .int .i64 0, .int .i64 0, .int .i64 0, .int .i64 0, .bool false, .int .i64 0] 24)).alloc (.cells #[.string a1, .bool false] 48)).alloc (.cells #[.pointer (some ⟨w.heap.size + 1, 0, none⟩)] 46)).alloc (.cells #[.int .i64 a0, .int .i64 2000, .int .i64 1, .int .i64 1, .int .i64 0, .int .i64 0, .bool false, .int .i64 0] 24)).alloc (.cells #[.bool false] 4)) := by
  have n1 : ∀ (W : World) (o : Obj), (W.alloc o).heap.size = W.heap.size + 1 := fun W o => by simp
  have nw : ∀ (W : World) (o : Obj), (W.alloc o).heap[W.heap.size]? = some o := fun W o => by simpa using heap_alloc_new W o
  refine ⟨⟨⟨?_, by show w.heap.size ≤ w.heap.size + 1; omega⟩, ?_, ?_, ?_, by show w.heap.size ≤ w.heap.size + 1 + 1 + 1; omega, by show w.heap.size ≤ w.heap.size + 1 + 1 + 1 + 1; omega⟩, ?_, ?_⟩
  · have := nw (w.alloc (.cells #[.int .i64 0, .int .i64 0, .int .i64 0, .int .i64 0, .int .i64 0, .int .i64 0, .bool false, .int .i64 0] 24)) (.cells #[.string a1, .bool false] 48)
    rw [n1] at this
    exact blk_alloc (blk_alloc (blk_alloc this _) _) _
  · have := nw ((w.alloc (.cells #[.int .i64 0, .int .i64 0, .int .i64 0, .int .i64 0, .int .i64 0, .int .i64 0, .bool false, .int .i64 0] 24)).alloc (.cells #[.string a1, .bool false] 48)) (.cells #[.pointer (some ⟨w.heap.size + 1, 0, none⟩)] 46)
    rw [n1, n1] at this
    exact blk_alloc (blk_alloc this _) _
  · have := nw (((w.alloc (.cells #[.int .i64 0, .int .i64 0, .int .i64 0, .int .i64 0, .int .i64 0, .int .i64 0, .bool false, .int .i64 0] 24)).alloc (.cells #[.string a1, .bool false] 48)).alloc (.cells #[.pointer (some ⟨w.heap.size + 1, 0, none⟩)] 46)) (.cells #[.int .i64 a0, .int .i64 2000, .int .i64 1, .int .i64 1, .int .i64 0, .int .i64 0, .bool false, .int .i64 0] 24)
    rw [n1, n1, n1] at this
    exact blk_alloc this _
  · have := nw ((((w.alloc (.cells #[.int .i64 0, .int .i64 0, .int .i64 0, .int .i64 0, .int .i64 0, .int .i64 0, .bool false, .int .i64 0] 24)).alloc (.cells #[.string a1, .bool false] 48)).alloc (.cells #[.pointer (some ⟨w.heap.size + 1, 0, none⟩)] 46)).alloc (.cells #[.int .i64 a0, .int .i64 2000, .int .i64 1, .int .i64 1, .int .i64 0, .int .i64 0, .bool false, .int .i64 0] 24)) (.cells #[.bool false] 4)
    rw [n1, n1, n1, n1] at this
    exact this
  · exact blk_alloc (blk_alloc (blk_alloc (blk_alloc (nw w _) _) _) _) _
  · exact below_alloc (below_alloc (below_alloc (below_alloc (below_alloc (Below.refl _ _) _) _) _) _) _
/-- The row of closures lies there. -/
def AtLoop (a0 : Int) (a1 : ByteArray) (g : Gs) (w : World) (v : Value) (wc : World) : Prop :=
  ∃ gf : Nat, v = .slice (some ⟨gf, 0, none⟩) (fieldsOf a0).length (fieldsOf a0).length ∧ wc.heap[gf]? = some (.cells ((fieldsOf a0).map (Fld.val g)).toArray 1 (0, 0)) ∧
    Inv a0 g w wc ⟨a1, false, 2000, 1, 1, 0, 0, false⟩ ∧ wc.heap[w.heap.size]? = some (.cells #[.int .i64 0, .int .i64 0, .int .i64 0, .int .i64 0, .int .i64 0, .int .i64 0, .bool false, .int .i64 0] 24 (0, 0)) ∧ Below w.heap.size w wc
theorem at_loop {a0 : Int} {a1 : ByteArray} {g : Gs} {w W : World} {cs : Array Value} {n : Nat} (hI : Inv a0 g w W ⟨a1, false, 2000, 1, 1, 0, 0, false⟩)
    (hR : W.heap[w.heap.size]? = some (.cells #[.int .i64 0, .int .i64 0, .int .i64 0, .int .i64 0, .int .i64 0, .int .i64 0, .bool false, .int .i64 0] 24 (0, 0))) (hB : Below w.heap.size w W)
    (e1 : (fieldsOf a0).length = n) (e2 : ((fieldsOf a0).map (Fld.val g)).toArray = cs) : AtLoop a0 a1 g w (.slice (some ⟨W.heap.size, 0, none⟩) n n) (W.alloc (.cells cs 1)) := by
  subst e1 e2
  exact ⟨W.heap.size, rfl, by simpa using heap_alloc_new W _, hI.alloc _, blk_alloc hR _, below_alloc hB _⟩
theorem fields_le (k : Int) : (fieldsOf k).length ≤ 7 := by
  unfold fieldsOf
  (repeat' split) <;> decide
/-- At each round's head. -/
def LoopRel (K : Nat) (a0 : Int) (l : List Fld) (x : St) (g : Gs) (gf : Nat) (w : World) (i : Value) (wr : World) : Prop :=
  ∃ (j : Nat) (y : St), i = .int .i64 j ∧ j ≤ l.length ∧ run K (l.drop j) y = some x ∧ Inv a0 g w wr y ∧ wr.heap[gf]? = some (.cells (l.map (Fld.val g)).toArray 1 (0, 0)) ∧
    wr.heap[w.heap.size]? = some (.cells #[.int .i64 0, .int .i64 0, .int .i64 0, .int .i64 0, .int .i64 0, .int .i64 0, .bool false, .int .i64 0] 24 (0, 0)) ∧ Below w.heap.size w wr
theorem run_cons {K : Nat} {l : List Fld} {x y : St} {j : Nat} (hj : j < l.length) (h : run K (l.drop j) y = some x) : ∃ f y', l[j]? = some f ∧ step K f y = some y' ∧ run K (l.drop (j + 1)) y' = some x := by
  rw [List.drop_eq_getElem_cons hj] at h
  obtain ⟨y', h1, h2⟩ := Option.bind_eq_some_iff.mp h
  exact ⟨_, y', List.getElem?_eq_getElem hj, h1, h2⟩
theorem fld_cell {l : List Fld} {g : Gs} {wr : World} {gf j : Nat} {f : Fld} (hF : wr.heap[gf]? = some (.cells (l.map (Fld.val g)).toArray 1 (0, 0))) (hf : l[j]? = some f) : wr.cell? ⟨gf, j, none⟩ = some (Fld.val g f) :=
  (blk_cell hF j).trans (by simp [hf])
theorem loop_next {K : Nat} {a0 : Int} {l : List Fld} {x : St} {g : Gs} {gf : Nat} {w wr w1 : World} {j : Nat} {y y' : St} (hj : j < l.length) (hrun : run K (l.drop (j + 1)) y' = some x) (hI : Inv a0 g w wr y)
    (hF : wr.heap[gf]? = some (.cells (l.map (Fld.val g)).toArray 1 (0, 0))) (hR : wr.heap[w.heap.size]? = some (.cells #[.int .i64 0, .int .i64 0, .int .i64 0, .int .i64 0, .int .i64 0, .int .i64 0, .bool false, .int .i64 0] 24 (0, 0)))
    (hne : w.heap.size ≠ g.r ∧ w.heap.size ≠ g.m ∧ w.heap.size ≠ g.e) (hI1 : Inv a0 g w w1 y') (hB1 : Below w.heap.size w w1) (hk : Kept4 g wr w1) : LoopRel K a0 l x g gf w (.int .i64 (↑j + 1)) w1 :=
  ⟨j + 1, y', by go_num, hj, hrun, hI1, hk.blk hF (blk_ne hF hI.r.1 (by decide)) (blk_ne hF hI.m (by decide)) (blk_ne hF hI.e (by decide)), hk.blk hR hne.1 hne.2.1 hne.2.2, hB1⟩
set_option maxRecDepth 100000 in
set_option maxHeartbeats 2000000 in
theorem date_Parse.calls (K : Nat) (a0 : Int) (a1 : ByteArray) (r1 r2 r3 r4 r5 r6 : Int) (r7 : Bool) (r8 r9 : Int) (w : World) (h : date_Parse.f K a0 a1 = some (r1, r2, r3, r4, r5, r6, r7, r8, r9)) :
    Calls Tryd.prog 8 #[.int .i64 a0, .string a1] w fun e w' => e = .returned (.tuple #[.agg #[.int .i64 r1, .int .i64 r2, .int .i64 r3, .int .i64 r4, .int .i64 r5, .int .i64 r6, .bool r7, .int .i64 r8], .int .i64 r9]) ∧ Below w.heap.size w w' := by
  unfold date_Parse.f at h
  by_cases h1 : a0 < 1
  · rw [if_pos h1] at h
    cases h
    go_enter Tryd.func8, Tryd.ntmps8
    go_wp2
    exact bodyPost_ret (v := .tuple #[.agg #[.int .i64 0, .int .i64 0, .int .i64 0, .int .i64 0, .int .i64 0, .int .i64 0, .bool false, .int .i64 0], .int .i64 1]) (by simp [results, Tryd.results8, go_sem]) rfl ⟨rfl, (Below.refl _ _).alloc (Nat.le_refl _) _⟩
  rw [if_neg h1] at h
  by_cases h8 : a0 > 8
  · rw [if_pos h8] at h
    cases h
    go_enter Tryd.func8, Tryd.ntmps8
    go_wp2
    exact bodyPost_ret (v := .tuple #[.agg #[.int .i64 0, .int .i64 0, .int .i64 0, .int .i64 0, .int .i64 0, .int .i64 0, .bool false, .int .i64 0], .int .i64 1]) (by simp [results, Tryd.results8, go_sem]) rfl ⟨rfl, (Below.refl _ _).alloc (Nat.le_refl _) _⟩
  rw [if_neg h8] at h
  obtain ⟨x, hx, h⟩ := Option.bind_eq_some_iff.mp h
  obtain ⟨z, hz, h⟩ := Option.bind_eq_some_iff.mp h
  have HX := Lib.hid hx; have HZ := Lib.hid hz; have HH := Lib.hid h; clear hx hz h
  have t1 : decide (a0 < 1) = false := by simpa using h1
  have t8 : decide (8 < a0) = false := by simpa using h8
  go_enter Tryd.func8, Tryd.ntmps8
  go_upto_block 0 with (fail)
  obtain ⟨hI0, hR0, hB0⟩ := start_blocks w a0 a1
  generalize ((((w.alloc (.cells #[.int .i64 0, .int .i64 0, .int .i64 0, .int .i64 0, .int .i64 0, .int .i64 0, .bool false, .int .i64 0] 24)).alloc (.cells #[.string a1, .bool false] 48)).alloc (.cells #[.pointer (some ⟨w.heap.size + 1, 0, none⟩)] 46)).alloc (.cells #[.int .i64 a0, .int .i64 2000, .int .i64 1, .int .i64 1, .int .i64 0, .int .i64 0, .bool false, .int .i64 0] 24)).alloc (.cells #[.bool false] 4) = W1 at hI0 hR0 hB0 ⊢
  have hne : w.heap.size ≠ w.heap.size + 1 ∧ w.heap.size ≠ w.heap.size + 1 + 1 + 1 ∧ w.heap.size ≠ w.heap.size + 1 + 1 + 1 + 1 := by omega
  generalize w.heap.size + 1 + 1 + 1 + 1 = ge at hI0 hne ⊢
  generalize w.heap.size + 1 + 1 + 1 = gm at hI0 hne ⊢
  generalize w.heap.size + 1 + 1 = gp at hI0 hne ⊢
  generalize w.heap.size + 1 = gr at hI0 hne ⊢
  have HI0 := Lib.hid hI0; have HR0 := Lib.hid hR0; have HB0 := Lib.hid hB0; have HNE := Lib.hid hne; clear hI0 hR0 hB0 hne
  go_cut [15] (fun v wc => AtLoop a0 a1 ⟨gr, gp, gm, ge⟩ w v wc)
  case first =>
    have hk : a0 = 1 ∨ a0 = 2 ∨ a0 = 3 ∨ a0 = 4 ∨ a0 = 5 ∨ a0 = 6 ∨ a0 = 7 ∨ a0 = 8 := by omega
    clear h1 h8 t1 t8 HX HZ HH
    rcases hk with rfl | rfl | rfl | rfl | rfl | rfl | rfl | rfl
    all_goals
      go_wp2
      go_meet
      case rel => exact at_loop HI0.out HR0.out HB0.out rfl rfl
  case rest =>
    obtain ⟨gf, rfl, hF, hI, hR, hB⟩ := hcut
    have hle := fields_le a0
    obtain ⟨l, hl⟩ : ∃ l, l = fieldsOf a0 := ⟨_, rfl⟩
    rw [← hl] at hF hle ⊢
    have hx := HX.out
    rw [← hl] at hx
    have HF0 := Lib.hid hF; have HI1 := Lib.hid hI; have HR1 := Lib.hid hR; have HB1 := Lib.hid hB; have HX1 := Lib.hid hx; clear hF hI hR hB hx hl HX HI0 HR0 HB0
    go_wp2
    go_loopw [92] (fun i wr => LoopRel K a0 l x ⟨gr, gp, gm, ge⟩ gf w i wr) (fun i _ => l.length - (intOf i).toNat)
    case atStart => exact ⟨0, _, rfl, Nat.zero_le _, HX1.out, HI1.out, HF0.out, HR1.out, HB1.out⟩
    case round =>
      obtain ⟨j, y, rfl, hj, hrun, hI, hF, hR, hB⟩ := hrel
      have HI := Lib.hid hI; have HF := Lib.hid hF; have HR := Lib.hid hR; have HB := Lib.hid hB; clear hI hF hR hB HF0 HI1 HR1 HB1 HX1
      by_cases hlt : j < l.length
      · obtain ⟨f, y', hf, hs, hrun⟩ := run_cons hlt hrun
        have hc := fld_cell HF.out hf
        have HRUN := Lib.hid hrun; have HS := Lib.hid hs; clear hrun hs hf
        cases f with
        | year =>
          obtain ⟨r, hr, rfl⟩ := Option.map_eq_some_iff.mp HS.out
          have HQ := Lib.hid hr; clear hr
          simp only [Fld.val] at hc
          go_wp2_with (go_at_call 18; refine (cl_year K a0 ⟨gr, gp, gm, ge⟩ y w wr r.1 r.2.1 r.2.2 HQ.out HI.out HB.out).mono ?_; rintro e w1 ⟨rfl, hI1, hB1, hk1⟩; have HI1 := Lib.hid hI1; have HB1 := Lib.hid hB1; have HK1 := Lib.hid hk1; clear hI1 hB1 hk1)
          go_roundw
          case rel => exact loop_next hlt HRUN.out HI.out HF.out HR.out HNE.out HI1.out HB1.out HK1.out
          case measure => simp [intOf]; omega
        | month =>
          obtain ⟨r, hr, rfl⟩ := Option.map_eq_some_iff.mp HS.out
          have HQ := Lib.hid hr; clear hr
          simp only [Fld.val] at hc
          go_wp2_with (go_at_call 20; refine (cl_month K a0 ⟨gr, gp, gm, ge⟩ y w wr r.1 r.2.1 r.2.2 HQ.out HI.out HB.out).mono ?_; rintro e w1 ⟨rfl, hI1, hB1, hk1⟩; have HI1 := Lib.hid hI1; have HB1 := Lib.hid hB1; have HK1 := Lib.hid hk1; clear hI1 hB1 hk1)
          go_roundw
          case rel => exact loop_next hlt HRUN.out HI.out HF.out HR.out HNE.out HI1.out HB1.out HK1.out
          case measure => simp [intOf]; omega
        | day =>
          obtain ⟨r, hr, rfl⟩ := Option.map_eq_some_iff.mp HS.out
          have HQ := Lib.hid hr; clear hr
          simp only [Fld.val] at hc
          go_wp2_with (go_at_call 22; refine (cl_day K a0 ⟨gr, gp, gm, ge⟩ y w wr r.1 r.2.1 r.2.2 HQ.out HI.out HB.out).mono ?_; rintro e w1 ⟨rfl, hI1, hB1, hk1⟩; have HI1 := Lib.hid hI1; have HB1 := Lib.hid hB1; have HK1 := Lib.hid hk1; clear hI1 hB1 hk1)
          go_roundw
          case rel => exact loop_next hlt HRUN.out HI.out HF.out HR.out HNE.out HI1.out HB1.out HK1.out
          case measure => simp [intOf]; omega
        | clock =>
          obtain ⟨r, hr, rfl⟩ := Option.map_eq_some_iff.mp HS.out
          have HQ := Lib.hid hr; clear hr
          simp only [Fld.val] at hc
          go_wp2_with (go_at_call 23; refine (cl_clock K a0 ⟨gr, gp, gm, ge⟩ y w wr r.1 r.2.1 r.2.2.1 r.2.2.2.1 r.2.2.2.2 HQ.out HI.out HB.out).mono ?_; rintro e w1 ⟨rfl, hI1, hB1, hk1⟩; have HI1 := Lib.hid hI1; have HB1 := Lib.hid hB1; have HK1 := Lib.hid hk1; clear hI1 hB1 hk1)
          go_roundw
          case rel => exact loop_next hlt HRUN.out HI.out HF.out HR.out HNE.out HI1.out HB1.out HK1.out
          case measure => simp [intOf]; omega
        | dash =>
          obtain ⟨r, hr, rfl⟩ := Option.map_eq_some_iff.mp HS.out
          have HQ := Lib.hid hr; clear hr
          simp only [Fld.val] at hc
          go_wp2_with (go_at_call 25; refine (cl_dash K a0 ⟨gr, gp, gm, ge⟩ y w wr r.1 r.2 HQ.out HI.out HB.out).mono ?_; rintro e w1 ⟨rfl, hI1, hB1, hk1⟩; have HI1 := Lib.hid hI1; have HB1 := Lib.hid hB1; have HK1 := Lib.hid hk1; clear hI1 hB1 hk1)
          go_roundw
          case rel => exact loop_next hlt HRUN.out HI.out HF.out HR.out HNE.out HI1.out HB1.out HK1.out
          case measure => simp [intOf]; omega
        | sharp =>
          obtain ⟨r, hr, rfl⟩ := Option.map_eq_some_iff.mp HS.out
          have HQ := Lib.hid hr; clear hr
          simp only [Fld.val] at hc
          go_wp2_with (go_at_call 27; refine (cl_sharp K a0 ⟨gr, gp, gm, ge⟩ y w wr r.1 r.2 HQ.out HI.out HB.out).mono ?_; rintro e w1 ⟨rfl, hI1, hB1, hk1⟩; have HI1 := Lib.hid hI1; have HB1 := Lib.hid hB1; have HK1 := Lib.hid hk1; clear hI1 hB1 hk1)
          go_roundw
          case rel => exact loop_next hlt HRUN.out HI.out HF.out HR.out HNE.out HI1.out HB1.out HK1.out
          case measure => simp [intOf]; omega
      · obtain rfl : j = l.length := by omega
        rw [List.drop_length] at hrun
        obtain rfl : y = x := Option.some.inj hrun
        clear hrun hlt
        have HZ' := HZ.out
        obtain ⟨z1, z2, z3, z4⟩ := z
        have c1 : wr.cell? ⟨gp, 0, none⟩ = some (.pointer (some ⟨gr, 0, none⟩)) := (blk_cell HI.out.p 0).trans rfl
        have c8 : HI.out = HI.out := rfl
        clear c8
        have HZZ := Lib.hid HZ'; clear HZ'
        go_wp2_with (go_at_call 28; refine (Pr.date_reader_zone.calls K gr y.s y.bad z1 z2 z3 z4 w wr HI.out.r HB.out HZZ.out).mono ?_; rintro e w1 ⟨rfl, hr1, hB1, hk1⟩; have hI1 := HI.out.read hr1 hk1; have hR1 := hk1.blk HR.out HNE.out.1 (by simp); have c2 : w1.cell? ⟨gm, 6, none⟩ = some (.bool false) := (blk_cell hI1.m 6).trans rfl; have c3 := blk_frozen hI1.m 6; have c4 : w1.cell? ⟨gm, 7, none⟩ = some (.int .i64 0) := (blk_cell hI1.m 7).trans rfl; have c5 := blk_frozen hI1.m 7; have HI1 := Lib.hid hI1; have HB1 := Lib.hid hB1; have HR1 := Lib.hid hR1; clear hI1 hB1 hk1 hr1 hR1)
        have hI2 : Pr.IsS48 w ((w1.setCell ⟨gm, 6, none⟩ (.bool z1)).setCell ⟨gm, 7, none⟩ (.int .i64 z2)) gr z3 z4 := (HI1.out.r.far HI1.out.ne_mr.symm _).far HI1.out.ne_mr.symm _
        have hp2 := blk_far (blk_far HI1.out.p HI1.out.ne_pm (p := ⟨gm, 6, none⟩) (.bool z1)) HI1.out.ne_pm (p := ⟨gm, 7, none⟩) (.int .i64 z2)
        have hm2 := blk_put (blk_put HI1.out.m 6 (.bool z1) rfl) 7 (.int .i64 z2) rfl
        have he2 := blk_far (blk_far HI1.out.e HI1.out.ne_em (p := ⟨gm, 6, none⟩) (.bool z1)) HI1.out.ne_em (p := ⟨gm, 7, none⟩) (.int .i64 z2)
        have hR2 := blk_far (blk_far HR1.out HNE.out.2.1 (p := ⟨gm, 6, none⟩) (.bool z1)) HNE.out.2.1 (p := ⟨gm, 7, none⟩) (.int .i64 z2)
        have hB2 := (HB1.out.setCell (p := ⟨gm, 6, none⟩) HI1.out.gm (.bool z1)).setCell (p := ⟨gm, 7, none⟩) HI1.out.gm (.int .i64 z2)
        have hgm := HI1.out.gm
        generalize (w1.setCell ⟨gm, 6, none⟩ (.bool z1)).setCell ⟨gm, 7, none⟩ (.int .i64 z2) = W2 at hI2 hp2 hm2 he2 hR2 hB2 ⊢
        have b1 : W2.cell? ⟨gp, 0, none⟩ = some (.pointer (some ⟨gr, 0, none⟩)) := (blk_cell hp2 0).trans rfl
        have b2 : W2.cell? ⟨gr, 0, none⟩ = some (.string z3) := (blk_cell hI2.1 0).trans rfl
        have b3 : W2.cell? ⟨gr, 1, none⟩ = some (.bool z4) := (blk_cell hI2.1 1).trans rfl
        have m1 : W2.cell? ⟨gm, 0, none⟩ = some (.int .i64 a0) := (blk_cell hm2 0).trans rfl
        have m2 : W2.cell? ⟨gm, 1, none⟩ = some (.int .i64 y.y) := (blk_cell hm2 1).trans rfl
        have m3 : W2.cell? ⟨gm, 2, none⟩ = some (.int .i64 y.mo) := (blk_cell hm2 2).trans rfl
        have m4 : W2.cell? ⟨gm, 3, none⟩ = some (.int .i64 y.d) := (blk_cell hm2 3).trans rfl
        have m5 : W2.cell? ⟨gm, 4, none⟩ = some (.int .i64 y.sec) := (blk_cell hm2 4).trans rfl
        have m6 : W2.cell? ⟨gm, 5, none⟩ = some (.int .i64 y.nano) := (blk_cell hm2 5).trans rfl
        have m7 : W2.cell? ⟨gm, 6, none⟩ = some (.bool z1) := (blk_cell hm2 6).trans rfl
        have m8 : W2.cell? ⟨gm, 7, none⟩ = some (.int .i64 z2) := (blk_cell hm2 7).trans rfl
        have e1 : W2.cell? ⟨ge, 0, none⟩ = some (.bool y.fin) := (blk_cell he2 0).trans rfl
        have q1 : W2.cell? ⟨w.heap.size, 0, none⟩ = some (.int .i64 0) := (blk_cell hR2 0).trans rfl
        have q2 : W2.cell? ⟨w.heap.size, 1, none⟩ = some (.int .i64 0) := (blk_cell hR2 1).trans rfl
        have q3 : W2.cell? ⟨w.heap.size, 2, none⟩ = some (.int .i64 0) := (blk_cell hR2 2).trans rfl
        have q4 : W2.cell? ⟨w.heap.size, 3, none⟩ = some (.int .i64 0) := (blk_cell hR2 3).trans rfl
        have q5 : W2.cell? ⟨w.heap.size, 4, none⟩ = some (.int .i64 0) := (blk_cell hR2 4).trans rfl
        have q6 : W2.cell? ⟨w.heap.size, 5, none⟩ = some (.int .i64 0) := (blk_cell hR2 5).trans rfl
        have q7 : W2.cell? ⟨w.heap.size, 6, none⟩ = some (.bool false) := (blk_cell hR2 6).trans rfl
        have q8 : W2.cell? ⟨w.heap.size, 7, none⟩ = some (.int .i64 0) := (blk_cell hR2 7).trans rfl
        have qf0 := blk_frozen hR2 0; have qf1 := blk_frozen hR2 1; have qf2 := blk_frozen hR2 2; have qf3 := blk_frozen hR2 3
        have qf4 := blk_frozen hR2 4; have qf5 := blk_frozen hR2 5; have qf6 := blk_frozen hR2 6; have qf7 := blk_frozen hR2 7
        have hh := HH.out
        skip
        have HR2 := Lib.hid hR2; have HM2 := Lib.hid hm2; have HB2 := Lib.hid hB2; have HGM := Lib.hid hgm
        clear hI2 hp2 hm2 he2 hR2 hB2 hgm HI1 HB1 HR1 HI HR HB HF HZZ c2 c3 c4 c5 c1 HH HZ
        by_cases hb4 : z4 = true
        · subst hb4
          rw [if_pos rfl] at hh
          cases hh
          go_quiet (fail)
          go_wp2
          exact bodyPost_ret (v := .tuple #[.agg #[.int .i64 0, .int .i64 0, .int .i64 0, .int .i64 0, .int .i64 0, .int .i64 0, .bool false, .int .i64 0], .int .i64 2]) (by simp [results, Tryd.results8, go_sem, q1, q2, q3, q4, q5, q6, q7, q8]) rfl ⟨rfl, by repeat (first | (with_reducible first | exact HB2.out | apply pw_below_drewN | apply below_drew1 | refine below_set ?_ (Nat.le_refl _)) | exact HB2.out)⟩
        obtain rfl : z4 = false := by simpa using hb4
        rw [if_neg (by decide)] at hh
        clear hb4
        by_cases hs : z3.toList = []
        · have s1 : (z3.toList == ([] : List UInt8)) = true := beq_iff_eq.mpr hs
          have s2 : (z3.toList != ([] : List UInt8)) = false := bne_eq_false_iff_eq.mpr hs
          rw [if_neg (by simpa using hs)] at hh
          obtain ⟨L, hL, hh⟩ := Option.bind_eq_some_iff.mp hh
          have HL := Lib.hid hL; clear hL hs
          by_cases hd : y.d > L
          · rw [if_pos hd] at hh
            cases hh
            have d1 : decide (L < y.d) = true := by simpa using hd
            clear hd
            go_quiet ((go_at_call 29; exact Calls.quiet_of ((Pr.date_Length.calls K y.y y.mo L _ HL.out).mono fun _ _ h_ => ⟨h_.1, h_.2.out⟩)))
            go_wp2
            exact bodyPost_ret (v := .tuple #[.agg #[.int .i64 0, .int .i64 0, .int .i64 0, .int .i64 0, .int .i64 0, .int .i64 0, .bool false, .int .i64 0], .int .i64 2]) (by simp [results, Tryd.results8, go_sem, q1, q2, q3, q4, q5, q6, q7, q8]) rfl ⟨rfl, by repeat (first | (with_reducible first | exact HB2.out | apply pw_below_drewN | apply below_drew1 | refine below_set ?_ (Nat.le_refl _)) | exact HB2.out)⟩
          rw [if_neg hd] at hh
          have d1 : decide (L < y.d) = false := by simpa using hd
          have hne1 : w.heap.size ≠ gm := HNE.out.2.1; have hne2 : gm ≠ w.heap.size := HNE.out.2.1.symm
          by_cases hf : y.fin = true ∧ a0 = 1
          · obtain ⟨hf1, rfl⟩ := hf
            rw [if_pos ⟨hf1, rfl⟩] at hh
            rw [hf1] at e1
            obtain ⟨v, hv, hh⟩ := Option.bind_eq_some_iff.mp hh
            obtain ⟨v1, v2, v3, v4, v5, v6, v7, v8⟩ := v
            have HV := Lib.hid hv
            simp only [Option.some.injEq, Prod.mk.injEq] at hh
            obtain ⟨rfl, rfl, rfl, rfl, rfl, rfl, rfl, rfl, rfl⟩ := hh
            clear hv hf1 hd
            go_quiet ((go_at_call 29; exact Calls.quiet_of ((Pr.date_Length.calls K y.y y.mo L _ HL.out).mono fun _ _ h_ => ⟨h_.1, h_.2.out⟩)))
            go_wp2_with (go_at_call 11; refine (Pr.date_Add.calls K 1 y.y y.mo y.d y.sec y.nano z1 z2 0 86400 0 v1 v2 v3 v4 v5 v6 v7 v8 _ HV.out).mono ?_; rintro e w3 ⟨rfl, hb3⟩; have hm3 := blk_below (blk_drewN HM2.out _) hb3; have hR3 := blk_below (blk_drewN HR2.out _) hb3; have HB3 := Lib.hid hb3; clear hb3; have mm0 : w3.cell? ⟨gm, 0, none⟩ = some (.int .i64 1) := (blk_cell hm3 0).trans rfl; have mf0 := blk_frozen hm3 0; have qq0 : w3.cell? ⟨w.heap.size, 0, none⟩ = some (.int .i64 0) := (blk_cell hR3 0).trans rfl; have qg0 := blk_frozen hR3 0; have mm1 : w3.cell? ⟨gm, 1, none⟩ = some (.int .i64 y.y) := (blk_cell hm3 1).trans rfl; have mf1 := blk_frozen hm3 1; have qq1 : w3.cell? ⟨w.heap.size, 1, none⟩ = some (.int .i64 0) := (blk_cell hR3 1).trans rfl; have qg1 := blk_frozen hR3 1; have mm2 : w3.cell? ⟨gm, 2, none⟩ = some (.int .i64 y.mo) := (blk_cell hm3 2).trans rfl; have mf2 := blk_frozen hm3 2; have qq2 : w3.cell? ⟨w.heap.size, 2, none⟩ = some (.int .i64 0) := (blk_cell hR3 2).trans rfl; have qg2 := blk_frozen hR3 2; have mm3 : w3.cell? ⟨gm, 3, none⟩ = some (.int .i64 y.d) := (blk_cell hm3 3).trans rfl; have mf3 := blk_frozen hm3 3; have qq3 : w3.cell? ⟨w.heap.size, 3, none⟩ = some (.int .i64 0) := (blk_cell hR3 3).trans rfl; have qg3 := blk_frozen hR3 3; have mm4 : w3.cell? ⟨gm, 4, none⟩ = some (.int .i64 y.sec) := (blk_cell hm3 4).trans rfl; have mf4 := blk_frozen hm3 4; have qq4 : w3.cell? ⟨w.heap.size, 4, none⟩ = some (.int .i64 0) := (blk_cell hR3 4).trans rfl; have qg4 := blk_frozen hR3 4; have mm5 : w3.cell? ⟨gm, 5, none⟩ = some (.int .i64 y.nano) := (blk_cell hm3 5).trans rfl; have mf5 := blk_frozen hm3 5; have qq5 : w3.cell? ⟨w.heap.size, 5, none⟩ = some (.int .i64 0) := (blk_cell hR3 5).trans rfl; have qg5 := blk_frozen hR3 5; have mm6 : w3.cell? ⟨gm, 6, none⟩ = some (.bool z1) := (blk_cell hm3 6).trans rfl; have mf6 := blk_frozen hm3 6; have qq6 : w3.cell? ⟨w.heap.size, 6, none⟩ = some (.bool false) := (blk_cell hR3 6).trans rfl; have qg6 := blk_frozen hR3 6; have mm7 : w3.cell? ⟨gm, 7, none⟩ = some (.int .i64 z2) := (blk_cell hm3 7).trans rfl; have mf7 := blk_frozen hm3 7; have qq7 : w3.cell? ⟨w.heap.size, 7, none⟩ = some (.int .i64 0) := (blk_cell hR3 7).trans rfl; have qg7 := blk_frozen hR3 7; have HM3 := Lib.hid hm3; have HR3 := Lib.hid hR3; clear hm3 hR3)
            have HBB : Below w.heap.size w w3 := below_step (pw_below_drewN HB2.out _) HB3.out
            exact bodyPost_ret (v := .tuple #[.agg #[.int .i64 v1, .int .i64 v2, .int .i64 v3, .int .i64 v4, .int .i64 v5, .int .i64 v6, .bool v7, .int .i64 v8], .int .i64 0]) (by simp [results, Tryd.results8, go_sem, hne1, hne2, qq0, qq1, qq2, qq3, qq4, qq5, qq6, qq7]) rfl ⟨rfl, by repeat (first | (with_reducible first | exact HBB | apply pw_below_drewN | apply below_drew1 | refine below_set ?_ (Nat.le_refl _) | refine below_set ?_ HGM.out) | exact HBB)⟩
          · rw [if_neg hf] at hh
            simp only [Option.some.injEq, Prod.mk.injEq] at hh
            obtain ⟨rfl, rfl, rfl, rfl, rfl, rfl, rfl, rfl, rfl⟩ := hh
            clear hd
            by_cases hf1 : y.fin = true
            · have ha : ¬ a0 = 1 := fun h_ => hf ⟨hf1, h_⟩
              have k1 : (a0 == 1) = false := beq_eq_false_iff_ne.mpr ha
              rw [hf1] at e1
              clear hf hf1 ha
              go_quiet ((go_at_call 29; exact Calls.quiet_of ((Pr.date_Length.calls K y.y y.mo L _ HL.out).mono fun _ _ h_ => ⟨h_.1, h_.2.out⟩)))
              go_wp2
              exact bodyPost_ret (v := .tuple #[.agg #[.int .i64 a0, .int .i64 y.y, .int .i64 y.mo, .int .i64 y.d, .int .i64 y.sec, .int .i64 y.nano, .bool z1, .int .i64 z2], .int .i64 0]) (by simp [results, Tryd.results8, go_sem, hne1, hne2, q1, q2, q3, q4, q5, q6, q7, q8]) rfl ⟨rfl, by repeat (first | (with_reducible first | exact HB2.out | apply pw_below_drewN | apply below_drew1 | refine below_set ?_ (Nat.le_refl _) | refine below_set ?_ HGM.out) | exact HB2.out)⟩
            · have hf2 : y.fin = false := by simpa using hf1
              rw [hf2] at e1
              clear hf hf1 hf2
              go_quiet ((go_at_call 29; exact Calls.quiet_of ((Pr.date_Length.calls K y.y y.mo L _ HL.out).mono fun _ _ h_ => ⟨h_.1, h_.2.out⟩)))
              go_wp2
              exact bodyPost_ret (v := .tuple #[.agg #[.int .i64 a0, .int .i64 y.y, .int .i64 y.mo, .int .i64 y.d, .int .i64 y.sec, .int .i64 y.nano, .bool z1, .int .i64 z2], .int .i64 0]) (by simp [results, Tryd.results8, go_sem, hne1, hne2, q1, q2, q3, q4, q5, q6, q7, q8]) rfl ⟨rfl, by repeat (first | (with_reducible first | exact HB2.out | apply pw_below_drewN | apply below_drew1 | refine below_set ?_ (Nat.le_refl _) | refine below_set ?_ HGM.out) | exact HB2.out)⟩
        · have s1 : (z3.toList == ([] : List UInt8)) = false := beq_eq_false_iff_ne.mpr hs
          have s2 : (z3.toList != ([] : List UInt8)) = true := bne_iff_ne.mpr hs
          rw [if_pos hs] at hh
          cases hh
          clear hs
          go_quiet (fail)
          go_wp2
          exact bodyPost_ret (v := .tuple #[.agg #[.int .i64 0, .int .i64 0, .int .i64 0, .int .i64 0, .int .i64 0, .int .i64 0, .bool false, .int .i64 0], .int .i64 2]) (by simp [results, Tryd.results8, go_sem, q1, q2, q3, q4, q5, q6, q7, q8]) rfl ⟨rfl, by repeat (first | (with_reducible first | exact HB2.out | apply pw_below_drewN | apply below_drew1 | refine below_set ?_ (Nat.le_refl _)) | exact HB2.out)⟩
theorem step_mono (k : Nat) (f : Fld) (x : St) : LeO (step k f x) (step (k + 1) f x) := by
  intro r h
  cases f <;> (obtain ⟨q, h1, h2⟩ := Option.map_eq_some_iff.mp h)
  · exact Option.map_eq_some_iff.mpr ⟨q, Pr.date_reader_year.mono _ _ k _ h1, h2⟩
  · exact Option.map_eq_some_iff.mpr ⟨q, Pr.date_reader_number.mono _ _ _ _ k _ h1, h2⟩
  · exact Option.map_eq_some_iff.mpr ⟨q, Pr.date_reader_number.mono _ _ _ _ k _ h1, h2⟩
  · exact Option.map_eq_some_iff.mpr ⟨q, Pr.date_reader_clock.mono _ _ k _ h1, h2⟩
  · exact Option.map_eq_some_iff.mpr ⟨q, Pr.date_reader_want.mono _ _ _ k _ h1, h2⟩
  · exact Option.map_eq_some_iff.mpr ⟨q, Pr.date_reader_want.mono _ _ _ k _ h1, h2⟩
theorem run_mono (k : Nat) : ∀ (l : List Fld) (x : St), LeO (run k l x) (run (k + 1) l x)
  | [], x => LeO.refl _
  | f :: l, x => LeO.bind (step_mono k f x) (fun y => run_mono k l y)
theorem date_Parse.mono : ∀ a0 a1 k, LeO (date_Parse.f k a0 a1) (date_Parse.f (k + 1) a0 a1) := by
  intro a0 a1 k
  unfold date_Parse.f
  refine LeO.ite (LeO.refl _) (LeO.ite (LeO.refl _) (LeO.bind (run_mono k _ _) (fun x => LeO.bind (Pr.date_reader_zone.mono _ _ k) (fun z => LeO.ite (LeO.refl _) (LeO.ite (LeO.refl _) (LeO.bind (Pr.date_Length.mono _ _ k) (fun L => LeO.ite (LeO.refl _) (LeO.ite (LeO.bind (Pr.date_Add.mono _ _ _ _ _ _ _ _ _ _ _ k) (fun r => LeO.refl _)) (LeO.refl _)))))))))

end Go.Proofs.YtehaonhgbmlmnaaDoor.G
