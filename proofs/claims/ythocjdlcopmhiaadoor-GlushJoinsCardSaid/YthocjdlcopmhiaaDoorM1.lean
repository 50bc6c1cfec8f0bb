import Derived.Test.YthocjdlcopmhiaaDoorProg
import Derived.Below
import Derived.Deep.Draws
import Derived.Deep.AppendLies
import Derived.Maps.AppendAt
import Derived.OwnWalk
import Derived.Laws.BytesArg
import Derived.Laws.MakeOwn
import Derived.Laws.OwnMore
import Derived.Deep.OwnRows
import Derived.Tactics
import Derived.Lib.ConvBytes
import Derived.Laws.Slices
import Derived.WalkKit
import Derived.KernelRfl
import Derived.RowKit3
import Derived.Deep.LoopGhost
import Derived.Deep.QuietTactic
import Derived.BigQuiet
import Derived.WideLaws
import Derived.Deep.DeepCutAuto
import Derived.Deep.CutBlock
import Derived.Deep.RegionHeld3
import Derived.Laws.Rows
import Derived.Lib.AppendStr
import Derived.ArgAppend
import Derived.Laws.IdiomCopy
import Derived.OrdersHeld
import Derived.Laws.BitsLemmas
import Derived.RowKit
import Derived.Test.YthocjdlcopmhiaaDoorWWords
import Derived.Test.YthocjdlcopmhiaaDoorWLast
import Derived.Test.YthocjdlcopmhiaaDoorWTab
import Derived.Test.YthocjdlcopmhiaaDoorWQPut
import Derived.Test.YthocjdlcopmhiaaDoorWApart
import Derived.Test.YthocjdlcopmhiaaDoorWArr
import Derived.Test.YthocjdlcopmhiaaDoorWZeros
import Derived.Test.YthocjdlcopmhiaaDoorWFoot
import Derived.Test.YthocjdlcopmhiaaDoorWKept
import Derived.Test.YthocjdlcopmhiaaDoorWShare
import Derived.Test.YthocjdlcopmhiaaDoorWN
import Derived.Test.YthocjdlcopmhiaaDoorWRepsOne
import Derived.Test.YthocjdlcopmhiaaDoorWGuard
import Derived.Test.YthocjdlcopmhiaaDoorWNEv
import Derived.Test.YthocjdlcopmhiaaDoorWMore
import Derived.Test.YthocjdlcopmhiaaDoorWEqStruct
import Derived.Test.YthocjdlcopmhiaaDoorWFour
import Derived.Test.YthocjdlcopmhiaaDoorWFootNe
import Derived.Test.YthocjdlcopmhiaaDoorWAt
import Derived.Test.YthocjdlcopmhiaaDoorWInv
import Derived.Test.YthocjdlcopmhiaaDoorWInvWords
import Derived.Test.YthocjdlcopmhiaaDoorS
import Derived.Test.YthocjdlcopmhiaaDoorS3
import Derived.Test.YthocjdlcopmhiaaDoorPrx6
import Derived.Test.YthocjdlcopmhiaaDoorG1
import Derived.Lib.Hide
import Derived.Outline
import Derived.WideKeyArr
import Derived.Maps.OwnSet
import Derived.Test.YthocjdlcopmhiaaDoorPrx5
namespace Go.Proofs.YthocjdlcopmhiaaDoor.G
open Go.RowKit Go.Proofs.YthocjdlcopmhiaaDoorW.PrintWords Go.Proofs.YthocjdlcopmhiaaDoorW.PrintLast Go.Proofs.YthocjdlcopmhiaaDoorW.PrintMore
attribute [local go_sem] max2_int min2_int max_two min_two max_three min_three max_four min_four
set_option linter.unusedVariables false
set_option linter.unusedSimpArgs false
open Go.WideMaps Go.Maps Go.ChangeMaps in
theorem ak : ArrKey Tryd.prog 79 3 2 := ⟨Tryd.underlying79, by kernel_rfl, by kernel_rfl, by kernel_rfl⟩
open Go.WideMaps in
theorem K2 : Maps.Keyed Tryd.prog 79 := Maps.Keyed.of_law ak.law
abbrev key2 (a b : Int) : Value := .agg #[.int .i64 a, .int .i64 b]
theorem wf64 {a : Int} (h0 : 0 ≤ a) (h1 : a < 4611686018427387904) : (Lit.int .i64 a).wf = true := by
 have e1 : IntKind.i64.min = -9223372036854775808 := by kernel_rfl
 simp [Lit.wf, e1]
 omega
theorem keyOf2 (a b : Int) (ha : (Lit.int .i64 a).wf = true) (hb : (Lit.int .i64 b).wf = true) : ∃ l, keyOf Tryd.prog 79 (key2 a b) = some l := by
 have h1 : Tryd.prog.keyType 79 = true := by kernel_rfl
 have h2 : (key2 a b).formed Tryd.prog 79 = true := by
  simp only [Value.formed, Tryd.underlying79]; kernel_rfl
 have h3 : Tryd.prog.cellsOf 79 = 2 := by kernel_rfl
 have h4 : Tryd.prog.cellsOf 3 = 1 := by kernel_rfl
 have h5 : decide (0 < Tryd.prog.types.size) = true := by kernel_rfl
 have h6 := of_decide_eq_true h5
 obtain ⟨m, hm⟩ : ∃ m, Tryd.prog.types.size + 1 = m + 2 := ⟨Tryd.prog.types.size - 1, by omega⟩
 unfold keyOf
 rw [Tryd.underlying79]
 simp only [h1, h2, Bool.and_self, if_true]
 rw [hm]
 refine ⟨_, congrArg _ (show Tryd.prog.keyLits (m + 2) 79 [.int .i64 a, .int .i64 b] = some [.int .i64 a, .int .i64 b] from ?_)⟩
 simp [Program.keyLits, Tryd.underlying79, Tryd.underlying3, h3, h4, ha, hb, List.range_succ]
def KeysOk (k : TypeId) (es : Array MapEntry) : Prop := ∀ x ∈ es.toList, ∃ l, keyOf Tryd.prog k x.key = some l
theorem look_run {k t e : TypeId} {w : World} {b : Nat} {es : Array MapEntry} {clock : Nat} {z key : Value} {kl : Lit} (K : Maps.Keyed Tryd.prog k) (ht : Tryd.prog.underlying t = some (.map k e)) (hz : (zeroValue e).run Tryd.prog w = .ok z w)
  (hb : w.heap[b]? = some (.map es clock)) (hk : KeysOk k es) (hkey : keyOf Tryd.prog k key = some kl) :
  ((Instr.lookup t (.map (some b)) key true).run Tryd.prog w = .ok (.tuple #[z, .bool false]) w ∧ ∀ x ∈ es.toList, x.key ≠ key) ∨ ∃ e0, e0 ∈ es.toList ∧ e0.key = key ∧ (Instr.lookup t (.map (some b)) key true).run Tryd.prog w = .ok (.tuple #[e0.val, .bool true]) w := by
 rcases K.find w hkey es.toList hk with ⟨h1, h2⟩ | ⟨j, e0, h1, h2, h3⟩
 ·exact .inl ⟨by simp [Instr.lookup, run_underlying ht, MapKept.run_getObj_map hb, K.check w _ hkey, h1, hz, Result.andThen], h2⟩
 ·exact .inr ⟨e0, List.mem_of_getElem? h2, h3, by simp [Instr.lookup, run_underlying ht, MapKept.run_getObj_map hb, K.check w _ hkey, h1, Result.andThen]⟩
theorem put_run {k t e : TypeId} {w : World} {b : Nat} {es : Array MapEntry} {clock : Nat} {key val : Value} {kl : Lit} (K : Maps.Keyed Tryd.prog k) (ht : Tryd.prog.underlying t = some (.map k e))
  (hb : w.heap[b]? = some (.map es clock)) (hk : KeysOk k es) (hkey : keyOf Tryd.prog k key = some kl) :
  ∃ es' clock' w', (Instr.mapUpdate t (.map (some b)) key val).run Tryd.prog w = .ok () w' ∧ w.mapTurned w' b ∧ w'.heap[b]? = some (.map es' clock') ∧ (∀ x' ∈ es'.toList, x' ∈ es.toList ∨ (x'.key = key ∧ x'.val = val)) ∧ (∀ x ∈ es.toList, ∃ x' ∈ es'.toList, x'.key = x.key) ∧ (∃ x' ∈ es'.toList, x'.key = key) ∧ es'.size ≤ es.size + 1 := by
 rcases K.find w hkey es.toList hk with ⟨h1, h2⟩ | ⟨j, e0, h1, h2, h3⟩
 ·refine ⟨es.push ⟨key, val, clock⟩, clock + 1, ChangeMaps.setBlock w b (.map (es.push ⟨key, val, clock⟩) (clock + 1)), ?_, ⟨es, clock, _, _, hb, rfl⟩, ChangeMaps.heap_setBlock_same hb _, fun x hx => ?_, fun x hx => ⟨x, ?_, rfl⟩, ⟨⟨key, val, clock⟩, by simp, rfl⟩, by simp⟩
  ·simp [Instr.mapUpdate, run_underlying ht, MapKept.run_getObj_map hb, K.check w false hkey, h1, MapKept.run_setObj_map _ hb, Result.andThen, ChangeMaps.setBlock]
  ·simp only [Array.toList_push, List.mem_append, List.mem_singleton] at hx
   rcases hx with hx | rfl
   ·exact .inl hx
   ·exact .inr ⟨rfl, rfl⟩
  ·simp only [Array.toList_push, List.mem_append]
   exact .inl hx
 ·have hj : es[j]? = some e0 := by simpa using h2
  have hlist : (es.modify j (fun e' => { e' with key := key, val := val })).toList = es.toList.set j { e0 with key := key, val := val } := by rw [Array.toList_modify, ChangeMaps.modify_eq_set _ _ _ _ h2]
  have hjl : j < es.toList.length := (List.getElem?_eq_some_iff.1 h2).1
  refine ⟨es.modify j (fun e' => { e' with key := key, val := val }), clock, ChangeMaps.setBlock w b (.map (es.modify j (fun e' => { e' with key := key, val := val })) clock), ?_, ⟨es, clock, _, _, hb, rfl⟩, ChangeMaps.heap_setBlock_same hb _, fun x hx => ?_, fun x hx => ?_, ⟨{ e0 with key := key, val := val }, ?_, rfl⟩, by simp⟩
  ·simp [Instr.mapUpdate, run_underlying ht, MapKept.run_getObj_map hb, K.check w false hkey, h1, hj, h3, K.stays w hkey, MapKept.run_setObj_map _ hb, Result.andThen, ChangeMaps.setBlock]
  ·rw [hlist] at hx
   rcases List.mem_or_eq_of_mem_set hx with h | rfl
   ·exact .inl h
   ·exact .inr ⟨rfl, rfl⟩
  ·rw [hlist]
   obtain ⟨i, hi, rfl⟩ := List.getElem_of_mem hx
   by_cases hij : j = i
   ·subst hij
    refine ⟨_, List.mem_of_getElem? (i := j) (by rw [List.getElem?_set]; simp only [if_true]; rw [if_pos hjl]), ?_⟩
    have : es.toList[j] = e0 := (List.getElem?_eq_some_iff.1 h2).2
    rw [this]; exact h3.symm
   ·exact ⟨es.toList[i], List.mem_of_getElem? (i := i) (by rw [List.getElem?_set, if_neg hij]; exact List.getElem?_eq_getElem hi), rfl⟩
  ·rw [hlist]
   exact List.mem_of_getElem? (i := j) (by rw [List.getElem?_set]; simp only [if_true]; rw [if_pos hjl])
end Go.Proofs.YthocjdlcopmhiaaDoor.G
namespace Go.Proofs.YthocjdlcopmhiaaDoor.G
open Go.RowKit Go.Proofs.YthocjdlcopmhiaaDoorW.PrintWords Go.Proofs.YthocjdlcopmhiaaDoorW.PrintLast Go.Proofs.YthocjdlcopmhiaaDoorW.PrintMore
attribute [local go_sem] max2_int min2_int max_two min_two max_three min_three max_four min_four
set_option linter.unusedVariables false
set_option linter.unusedSimpArgs false
namespace GP
inductive Run (sym : Nat → Int) (fol : Nat → Nat → Prop) (last : Nat → Prop) : Nat → List Int → Prop
  | one (p : Nat) : last p → Run sym fol last p [sym p]
  | more (p q : Nat) (w : List Int) : fol p q → Run sym fol last q w → Run sym fol last p (sym p :: w)
def Lang (sym : Nat → Int) (fol : Nat → Nat → Prop) (null : Bool) (first last : Nat → Prop) (w : List Int) : Prop :=
  (null = true ∧ w = []) ∨ ∃ p, first p ∧ Run sym fol last p w
structure Frag (sym : Nat → Int) (fol : Nat → Nat → Prop) (P : Nat → Prop) (null : Bool) (first last : Nat → Prop) (L : List Int → Prop) : Prop where
  fst : ∀ p, first p → P p
  lst : ∀ p, last p → P p
  row : ∀ p q, P p → fol p q → P q
  lang : ∀ w, Lang sym fol null first last w ↔ L w
theorem Run.ne {sym fol last p w} (h : Run sym fol last p w) : w ≠ [] := by cases h <;> simp
theorem Run.mono {sym : Nat → Int} {fol fol' : Nat → Nat → Prop} {last last' : Nat → Prop} {P : Nat → Prop} (hP : ∀ p q, P p → fol p q → P q) (hf : ∀ p q, P p → fol p q → fol' p q) (hl : ∀ p, P p → last p → last' p) {p : Nat} {w : List Int} (h : Run sym fol last p w) : P p → Run sym fol' last' p w := by
  induction h with
  | one p h => exact fun hp => .one p (hl p hp h)
  | more p q w h _ ih => exact fun hp => .more p q w (hf p q hp h) (ih (hP p q hp h))
theorem Run.sym_eq {sym sym' : Nat → Int} {fol : Nat → Nat → Prop} {last : Nat → Prop} {P : Nat → Prop} (hP : ∀ p q, P p → fol p q → P q) (hs : ∀ p, P p → sym p = sym' p) {p : Nat} {w : List Int} (h : Run sym fol last p w) : P p → Run sym' fol last p w := by
  induction h with
  | one p h => intro hp; rw [hs p hp]; exact .one p h
  | more p q w h _ ih => intro hp; rw [hs p hp]; exact .more p q w h (ih (hP p q hp h))
theorem Frag.stay {sym sym' : Nat → Int} {fol fol' : Nat → Nat → Prop} {P : Nat → Prop} {null : Bool} {first last : Nat → Prop} {L : List Int → Prop} (h : Frag sym fol P null first last L)
    (hf : ∀ p q, P p → (fol' p q ↔ fol p q)) (hs : ∀ p, P p → sym' p = sym p) : Frag sym' fol' P null first last L := by
  have row' : ∀ p q, P p → fol' p q → P q := fun p q hp hq => h.row p q hp ((hf p q hp).1 hq)
  refine ⟨h.fst, h.lst, row', fun w => ?_⟩
  rw [← h.lang w]
  constructor
  · rintro (h1 | ⟨p, h1, h2⟩)
    · exact .inl h1
    · exact .inr ⟨p, h1, (h2.mono row' (fun p q hp => (hf p q hp).1) (fun _ _ x => x) (h.fst p h1)).sym_eq h.row hs (h.fst p h1)⟩
  · rintro (h1 | ⟨p, h1, h2⟩)
    · exact .inl h1
    · exact .inr ⟨p, h1, (h2.sym_eq h.row (fun p hp => (hs p hp).symm) (h.fst p h1)).mono h.row (fun p q hp => (hf p q hp).2) (fun _ _ x => x) (h.fst p h1)⟩
def Cat (L M : List Int → Prop) (w : List Int) : Prop := ∃ u v, w = u ++ v ∧ L u ∧ M v
def Eps (w : List Int) : Prop := w = []
def Opt (L : List Int → Prop) (w : List Int) : Prop := w = [] ∨ L w
theorem frag_none (sym : Nat → Int) (fol : Nat → Nat → Prop) (null : Bool) : Frag sym fol (fun _ => False) null (fun _ => False) (fun _ => False) (fun w => null = true ∧ w = []) :=
  ⟨fun _ h => h, fun _ h => h, fun _ _ h => h.elim, fun w => ⟨fun h => by rcases h with h | ⟨p, h, _⟩; exact h; exact h.elim, .inl⟩⟩
theorem frag_sym (sym : Nat → Int) (fol : Nat → Nat → Prop) (i : Nat) (h : ∀ q, ¬ fol i q) : Frag sym fol (fun p => p = i) false (fun p => p = i) (fun p => p = i) (fun w => w = [sym i]) := by
  refine ⟨fun _ h => h, fun _ h => h, fun p q hp hq => by subst hp; exact (h q hq).elim, fun w => ⟨?_, ?_⟩⟩
  · rintro (⟨h1, _⟩ | ⟨p, rfl, h2⟩)
    · cases h1
    · cases h2 with
      | one => rfl
      | more _ q _ h3 _ => exact (h q h3).elim
  · rintro rfl
    exact .inr ⟨i, rfl, .one i rfl⟩
theorem frag_seq {sym : Nat → Int} {fol fol' : Nat → Nat → Prop} {P Q : Nat → Prop} {n m : Bool} {f l f' l' : Nat → Prop} {L M : List Int → Prop} (hx : Frag sym fol P n f l L) (hy : Frag sym fol Q m f' l' M)
    (hd : ∀ p, P p → ¬ Q p) (hf : ∀ p q, fol' p q ↔ fol p q ∨ (l p ∧ f' q)) :
    Frag sym fol' (fun p => P p ∨ Q p) (n && m) (fun p => f p ∨ (n = true ∧ f' p)) (fun p => l' p ∨ (m = true ∧ l p)) (Cat L M) := by
  have rowQ : ∀ p q, Q p → fol' p q → Q q ∧ fol p q := fun p q hp hq => by
    rcases (hf p q).1 hq with h | ⟨h, _⟩
    · exact ⟨hy.row p q hp h, h⟩
    · exact (hd p (hx.lst p h) hp).elim
  refine ⟨?_, ?_, ?_, fun w => ?_⟩
  · rintro p (h | ⟨_, h⟩); exact .inl (hx.fst p h); exact .inr (hy.fst p h)
  · rintro p (h | ⟨_, h⟩); exact .inr (hy.lst p h); exact .inl (hx.lst p h)
  · rintro p q (hp | hp) hq
    · rcases (hf p q).1 hq with h | ⟨_, h⟩
      · exact .inl (hx.row p q hp h)
      · exact .inr (hy.fst q h)
    · exact .inr (rowQ p q hp hq).1
  -- runs in the second part
  have inQ : ∀ p w, Q p → (Run sym fol' (fun p => l' p ∨ (m = true ∧ l p)) p w ↔ Run sym fol l' p w) := fun p w hp =>
    ⟨fun h => h.mono (P := Q) (fun p q a b => (rowQ p q a b).1) (fun p q a b => (rowQ p q a b).2) (fun p hq h => h.elim id (fun h => (hd p (hx.lst p h.2) hq).elim)) hp,
     fun h => h.mono (P := Q) hy.row (fun p q _ b => (hf p q).2 (.inl b)) (fun p _ h => .inl h) hp⟩
  have fromP : ∀ p w, Run sym fol' (fun p => l' p ∨ (m = true ∧ l p)) p w → P p → (m = true ∧ Run sym fol l p w) ∨ ∃ u v, w = u ++ v ∧ Run sym fol l p u ∧ ∃ q, f' q ∧ Run sym fol l' q v := by
    intro p w h
    induction h with
    | one p h =>
      intro hp
      rcases h with h | ⟨h1, h2⟩
      · exact (hd p hp (hy.lst p h)).elim
      · exact .inl ⟨h1, .one p h2⟩
    | more p q w h hr ih =>
      intro hp
      rcases (hf p q).1 h with h1 | ⟨h1, h2⟩
      · rcases ih (hx.row p q hp h1) with ⟨a, b⟩ | ⟨u, v, rfl, b, c⟩
        · exact .inl ⟨a, .more p q w h1 b⟩
        · exact .inr ⟨sym p :: u, v, rfl, .more p q u h1 b, c⟩
      · exact .inr ⟨[sym p], w, rfl, .one p h1, q, h2, (inQ q w (hy.fst q h2)).1 hr⟩
  have toP : ∀ p u, Run sym fol l p u → ∀ v q, f' q → Run sym fol l' q v → Run sym fol' (fun p => l' p ∨ (m = true ∧ l p)) p (u ++ v) := by
    intro p u h
    induction h with
    | one p h => exact fun v q h1 h2 => .more p q v ((hf p q).2 (.inr ⟨h, h1⟩)) ((inQ q v (hy.fst q h1)).2 h2)
    | more p q w h _ ih => exact fun v q' h1 h2 => .more p q _ ((hf p q).2 (.inl h)) (ih v q' h1 h2)
  constructor
  · rintro (⟨h, rfl⟩ | ⟨p, h | ⟨hn, h⟩, hr⟩)
    · rw [Bool.and_eq_true] at h
      exact ⟨[], [], rfl, (hx.lang []).1 (.inl ⟨h.1, rfl⟩), (hy.lang []).1 (.inl ⟨h.2, rfl⟩)⟩
    · rcases fromP p w hr (hx.fst p h) with ⟨h1, h2⟩ | ⟨u, v, rfl, h1, q, h2, h3⟩
      · exact ⟨w, [], by simp, (hx.lang w).1 (.inr ⟨p, h, h2⟩), (hy.lang []).1 (.inl ⟨h1, rfl⟩)⟩
      · exact ⟨u, v, rfl, (hx.lang u).1 (.inr ⟨p, h, h1⟩), (hy.lang v).1 (.inr ⟨q, h2, h3⟩)⟩
    · exact ⟨[], w, rfl, (hx.lang []).1 (.inl ⟨hn, rfl⟩), (hy.lang w).1 (.inr ⟨p, h, (inQ p w (hy.fst p h)).1 hr⟩)⟩
  · rintro ⟨u, v, rfl, h1, h2⟩
    rcases (hx.lang u).2 h1 with ⟨a, rfl⟩ | ⟨p, a, b⟩
    · rcases (hy.lang v).2 h2 with ⟨c, rfl⟩ | ⟨q, c, d⟩
      · exact .inl ⟨by rw [a, c]; rfl, rfl⟩
      · exact .inr ⟨q, .inr ⟨a, c⟩, (inQ q v (hy.fst q c)).2 d⟩
    · rcases (hy.lang v).2 h2 with ⟨c, rfl⟩ | ⟨q, c, d⟩
      · refine .inr ⟨p, .inl a, ?_⟩
        rw [List.append_nil]
        exact b.mono (P := P) hx.row (fun p q _ h => (hf p q).2 (.inl h)) (fun p _ h => .inr ⟨c, h⟩) (hx.fst p a)
      · exact .inr ⟨p, .inl a, toP p u b v q c d⟩
theorem frag_alt {sym : Nat → Int} {fol : Nat → Nat → Prop} {P Q : Nat → Prop} {n m : Bool} {f l f' l' : Nat → Prop} {L M : List Int → Prop} (hx : Frag sym fol P n f l L) (hy : Frag sym fol Q m f' l' M) (hd : ∀ p, P p → ¬ Q p) :
    Frag sym fol (fun p => P p ∨ Q p) (n || m) (fun p => f p ∨ f' p) (fun p => l p ∨ l' p) (fun w => L w ∨ M w) := by
  refine ⟨?_, ?_, ?_, fun w => ?_⟩
  · rintro p (h | h); exact .inl (hx.fst p h); exact .inr (hy.fst p h)
  · rintro p (h | h); exact .inl (hx.lst p h); exact .inr (hy.lst p h)
  · rintro p q (h | h) hq; exact .inl (hx.row p q h hq); exact .inr (hy.row p q h hq)
  have r1 : ∀ p w, P p → (Run sym fol (fun p => l p ∨ l' p) p w ↔ Run sym fol l p w) := fun p w hp =>
    ⟨fun h => h.mono (P := P) hx.row (fun _ _ _ h => h) (fun p hq h => h.elim id (fun h => (hd p hq (hy.lst p h)).elim)) hp, fun h => h.mono (P := P) hx.row (fun _ _ _ h => h) (fun _ _ h => .inl h) hp⟩
  have r2 : ∀ p w, Q p → (Run sym fol (fun p => l p ∨ l' p) p w ↔ Run sym fol l' p w) := fun p w hp =>
    ⟨fun h => h.mono (P := Q) hy.row (fun _ _ _ h => h) (fun p hq h => h.elim (fun h => (hd p (hx.lst p h) hq).elim) id) hp, fun h => h.mono (P := Q) hy.row (fun _ _ _ h => h) (fun _ _ h => .inr h) hp⟩
  constructor
  · rintro (⟨h, rfl⟩ | ⟨p, h | h, hr⟩)
    · rcases Bool.or_eq_true_iff.1 h with h | h
      · exact .inl ((hx.lang []).1 (.inl ⟨h, rfl⟩))
      · exact .inr ((hy.lang []).1 (.inl ⟨h, rfl⟩))
    · exact .inl ((hx.lang w).1 (.inr ⟨p, h, (r1 p w (hx.fst p h)).1 hr⟩))
    · exact .inr ((hy.lang w).1 (.inr ⟨p, h, (r2 p w (hy.fst p h)).1 hr⟩))
  · rintro (h | h)
    · rcases (hx.lang w).2 h with ⟨a, rfl⟩ | ⟨p, a, b⟩
      · exact .inl ⟨by rw [a]; rfl, rfl⟩
      · exact .inr ⟨p, .inl a, (r1 p w (hx.fst p a)).2 b⟩
    · rcases (hy.lang w).2 h with ⟨a, rfl⟩ | ⟨p, a, b⟩
      · exact .inl ⟨by rw [a]; exact Bool.or_true _, rfl⟩
      · exact .inr ⟨p, .inr a, (r2 p w (hy.fst p a)).2 b⟩
theorem frag_opt {sym : Nat → Int} {fol : Nat → Nat → Prop} {P : Nat → Prop} {n : Bool} {f l : Nat → Prop} {L : List Int → Prop} (h : Frag sym fol P n f l L) : Frag sym fol P true f l (Opt L) := by
  refine ⟨h.fst, h.lst, h.row, fun w => ⟨?_, ?_⟩⟩
  · rintro (⟨_, rfl⟩ | h2)
    · exact .inl rfl
    · exact .inr ((h.lang w).1 (.inr h2))
  · rintro (rfl | h2)
    · exact .inl ⟨rfl, rfl⟩
    · rcases (h.lang w).2 h2 with ⟨_, rfl⟩ | h3
      · exact .inl ⟨rfl, rfl⟩
      · exact .inr h3
inductive Plus (L : List Int → Prop) : List Int → Prop
  | one (w : List Int) : L w → Plus L w
  | more (u v : List Int) : L u → Plus L v → Plus L (u ++ v)
theorem frag_plus {sym : Nat → Int} {fol fol' : Nat → Nat → Prop} {P : Nat → Prop} {n : Bool} {f l : Nat → Prop} {L : List Int → Prop} (h : Frag sym fol P n f l L) (hf : ∀ p q, P p → (fol' p q ↔ fol p q ∨ (l p ∧ f q))) :
    Frag sym fol' P n f l (Plus L) := by
  have row' : ∀ p q, P p → fol' p q → P q := fun p q hp hq => by
    rcases (hf p q hp).1 hq with h1 | ⟨_, h1⟩
    · exact h.row p q hp h1
    · exact h.fst q h1
  refine ⟨h.fst, h.lst, row', fun w => ⟨?_, ?_⟩⟩
  · have go : ∀ p w, Run sym fol' l p w → P p → ∃ u v, w = u ++ v ∧ Run sym fol l p u ∧ (v = [] ∨ Plus L v) := by
      intro p w hr
      induction hr with
      | one p h1 => exact fun _ => ⟨[sym p], [], rfl, .one p h1, .inl rfl⟩
      | more p q w h1 _ ih =>
        intro hp
        obtain ⟨u, v, rfl, a, b⟩ := ih (row' p q hp h1)
        rcases (hf p q hp).1 h1 with h2 | ⟨h2, h3⟩
        · exact ⟨sym p :: u, v, rfl, .more p q u h2 a, b⟩
        · refine ⟨[sym p], u ++ v, rfl, .one p h2, .inr ?_⟩
          have hu : L u := (h.lang u).1 (.inr ⟨q, h3, a⟩)
          rcases b with rfl | b
          · rw [List.append_nil]; exact .one u hu
          · exact .more u v hu b
    rintro (⟨h1, rfl⟩ | ⟨p, h1, h2⟩)
    · exact .one [] ((h.lang []).1 (.inl ⟨h1, rfl⟩))
    · obtain ⟨u, v, rfl, a, b⟩ := go p w h2 (h.fst p h1)
      have hu : L u := (h.lang u).1 (.inr ⟨p, h1, a⟩)
      rcases b with rfl | b
      · rw [List.append_nil]; exact .one u hu
      · exact .more u v hu b
  · have up : ∀ p u, Run sym fol l p u → P p → Run sym fol' l p u := fun p u hr hp => hr.mono (P := P) h.row (fun p q hp h1 => (hf p q hp).2 (.inl h1)) (fun _ _ h => h) hp
    have app : ∀ p u, Run sym fol l p u → P p → ∀ q v, f q → Run sym fol' l q v → Run sym fol' l p (u ++ v) := by
      intro p u hr
      induction hr with
      | one p h1 => exact fun hp q v h2 h3 => .more p q v ((hf p q hp).2 (.inr ⟨h1, h2⟩)) h3
      | more p q w h1 _ ih => exact fun hp q' v h2 h3 => .more p q _ ((hf p q hp).2 (.inl h1)) (ih (h.row p q hp h1) q' v h2 h3)
    intro hp
    induction hp with
    | one w h1 =>
      rcases (h.lang w).2 h1 with h2 | ⟨p, h2, h3⟩
      · exact .inl h2
      · exact .inr ⟨p, h2, up p w h3 (h.fst p h2)⟩
    | more u v h1 _ ih =>
      rcases (h.lang u).2 h1 with ⟨a, rfl⟩ | ⟨p, h2, h3⟩
      · exact ih
      · rcases ih with ⟨a, rfl⟩ | ⟨q, a, b⟩
        · rw [List.append_nil]
          exact .inr ⟨p, h2, up p u h3 (h.fst p h2)⟩
        · exact .inr ⟨p, h2, app p u h3 (h.fst p h2) q v a b⟩
def Pow (L : List Int → Prop) : Nat → List Int → Prop
  | 0 => fun w => w = []
  | n + 1 => Cat (Pow L n) L
theorem Cat.assoc {L M N : List Int → Prop} (w : List Int) : Cat (Cat L M) N w ↔ Cat L (Cat M N) w := by
  constructor
  · rintro ⟨_, c, rfl, ⟨a, b, rfl, h1, h2⟩, h3⟩
    exact ⟨a, b ++ c, by simp, h1, b, c, rfl, h2, h3⟩
  · rintro ⟨a, _, rfl, h1, b, c, rfl, h2, h3⟩
    exact ⟨a ++ b, c, by simp, ⟨a, b, rfl, h1, h2⟩, h3⟩
theorem Cat.congr {L L' M M' : List Int → Prop} (h1 : ∀ w, L w ↔ L' w) (h2 : ∀ w, M w ↔ M' w) (w : List Int) : Cat L M w ↔ Cat L' M' w :=
  ⟨fun ⟨u, v, e, a, b⟩ => ⟨u, v, e, (h1 u).1 a, (h2 v).1 b⟩, fun ⟨u, v, e, a, b⟩ => ⟨u, v, e, (h1 u).2 a, (h2 v).2 b⟩⟩
theorem Cat.epsL {L : List Int → Prop} (w : List Int) : Cat (fun w => w = []) L w ↔ L w :=
  ⟨fun ⟨u, v, e, a, b⟩ => by subst a; simpa [e] using b, fun h => ⟨[], w, rfl, rfl, h⟩⟩
theorem Cat.epsR {L : List Int → Prop} (w : List Int) : Cat L (fun w => w = []) w ↔ L w :=
  ⟨fun ⟨u, v, e, a, b⟩ => by subst b; simpa [e] using a, fun h => ⟨w, [], by simp, h, rfl⟩⟩
theorem Pow.left (L : List Int → Prop) : ∀ n w, Pow L (n + 1) w ↔ Cat L (Pow L n) w
  | 0, w => by
    show Cat (fun w => w = []) L w ↔ Cat L (fun w => w = []) w
    rw [Cat.epsL, Cat.epsR]
  | n + 1, w => by
    show Cat (Pow L (n + 1)) L w ↔ Cat L (Cat (Pow L n) L) w
    rw [← Cat.assoc]
    exact Cat.congr (Pow.left L n) (fun _ => Iff.rfl) w
theorem Pow.add (L : List Int → Prop) (m : Nat) : ∀ n w, Pow L (m + n) w ↔ Cat (Pow L m) (Pow L n) w
  | 0, w => (Cat.epsR (L := Pow L m) w).symm
  | n + 1, w => by
    show Cat (Pow L (m + n)) L w ↔ Cat (Pow L m) (Cat (Pow L n) L) w
    rw [← Cat.assoc]
    exact Cat.congr (Pow.add L m n) (fun _ => Iff.rfl) w
theorem Plus.iff (L : List Int → Prop) (w : List Int) : Plus L w ↔ ∃ n, Pow L (n + 1) w := by
  constructor
  · intro h
    induction h with
    | one w h => exact ⟨0, [], w, rfl, rfl, h⟩
    | more u v h _ ih =>
      obtain ⟨n, hn⟩ := ih
      exact ⟨n + 1, (Pow.left L (n + 1) (u ++ v)).2 ⟨u, v, rfl, h, hn⟩⟩
  · rintro ⟨n, h⟩
    induction n generalizing w with
    | zero =>
      have h1 := (Cat.epsL (L := L) w).1 h
      exact .one w h1
    | succ n ih =>
      obtain ⟨u, v, rfl, a, b⟩ := (Pow.left L (n + 1) w).1 h
      exact .more u v a (ih v b)
def UpTo (L : List Int → Prop) : Nat → List Int → Prop
  | 0 => fun w => w = []
  | n + 1 => Opt (Cat L (UpTo L n))
theorem UpTo.iff (L : List Int → Prop) : ∀ n w, UpTo L n w ↔ ∃ j, j ≤ n ∧ Pow L j w
  | 0, w => ⟨fun h => ⟨0, Nat.le_refl _, h⟩, fun ⟨j, h1, h2⟩ => by
      obtain rfl : j = 0 := by omega
      exact h2⟩
  | n + 1, w => by
    constructor
    · rintro (rfl | ⟨u, v, rfl, a, b⟩)
      · exact ⟨0, by omega, rfl⟩
      · obtain ⟨j, h1, h2⟩ := (UpTo.iff L n v).1 b
        exact ⟨j + 1, by omega, (Pow.left L j _).2 ⟨u, v, rfl, a, h2⟩⟩
    · rintro ⟨j, h1, h2⟩
      cases j with
      | zero => exact .inl h2
      | succ j =>
        obtain ⟨u, v, rfl, a, b⟩ := (Pow.left L j w).1 h2
        exact .inr ⟨u, v, rfl, a, (UpTo.iff L n v).2 ⟨j, by omega, b⟩⟩
def Times (L : List Int → Prop) (lo : Nat) (hi : Option Nat) (w : List Int) : Prop := ∃ j, lo ≤ j ∧ (∀ h, hi = some h → j ≤ h) ∧ Pow L j w
theorem times_upTo (L : List Int → Prop) (lo d : Nat) (w : List Int) : Cat (Pow L lo) (UpTo L d) w ↔ Times L lo (some (lo + d)) w := by
  constructor
  · rintro ⟨u, v, rfl, a, b⟩
    obtain ⟨j, h1, h2⟩ := (UpTo.iff L d v).1 b
    exact ⟨lo + j, by omega, (fun h e => by cases e; omega), (Pow.add L lo j _).2 ⟨u, v, rfl, a, h2⟩⟩
  · rintro ⟨j, h1, h2, h3⟩
    have h4 := h2 _ rfl
    obtain ⟨i, rfl⟩ : ∃ i, j = lo + i := ⟨j - lo, by omega⟩
    obtain ⟨u, v, rfl, a, b⟩ := (Pow.add L lo i w).1 h3
    exact ⟨u, v, rfl, a, (UpTo.iff L d v).2 ⟨i, by omega, b⟩⟩
theorem times_plus (L : List Int → Prop) (lo : Nat) (w : List Int) : Cat (Pow L lo) (Plus L) w ↔ Times L (lo + 1) none w := by
  constructor
  · rintro ⟨u, v, rfl, a, b⟩
    obtain ⟨n, hn⟩ := (Plus.iff L v).1 b
    exact ⟨lo + (n + 1), by omega, (fun h e => by cases e), (Pow.add L lo (n + 1) _).2 ⟨u, v, rfl, a, hn⟩⟩
  · rintro ⟨j, h1, _, h3⟩
    obtain ⟨i, rfl⟩ : ∃ i, j = lo + (i + 1) := ⟨j - lo - 1, by omega⟩
    obtain ⟨u, v, rfl, a, b⟩ := (Pow.add L lo (i + 1) w).1 h3
    exact ⟨u, v, rfl, a, (Plus.iff L v).2 ⟨i, b⟩⟩
theorem times_star (L : List Int → Prop) (w : List Int) : Opt (Plus L) w ↔ Times L 0 none w := by
  constructor
  · rintro (rfl | h)
    · exact ⟨0, by omega, (fun h e => by cases e), rfl⟩
    · obtain ⟨n, hn⟩ := (Plus.iff L w).1 h
      exact ⟨n + 1, by omega, (fun h e => by cases e), hn⟩
  · rintro ⟨j, _, _, h⟩
    cases j with
    | zero => exact .inl h
    | succ j => exact .inr ((Plus.iff L w).2 ⟨j, h⟩)
end GP
end Go.Proofs.YthocjdlcopmhiaaDoor.G
namespace Go.Proofs.YthocjdlcopmhiaaDoor.G
open Go.RowKit Go.Proofs.YthocjdlcopmhiaaDoorW.PrintWords Go.Proofs.YthocjdlcopmhiaaDoorW.PrintLast Go.Proofs.YthocjdlcopmhiaaDoorW.PrintMore
attribute [local go_sem] max2_int min2_int max_two min_two max_three min_three max_four min_four
set_option linter.unusedVariables false
set_option linter.unusedSimpArgs false
open GP (Cat Eps Pow)
def TimesI (L : List Int → Prop) (lo hi : Int) (w : List Int) : Prop := ∃ j : Nat, lo ≤ (j : Int) ∧ (hi = -1 ∨ (j : Int) ≤ hi) ∧ Pow L j w
mutual
def LangE : Pr.S24 → List Int → Prop
 | ⟨f0, f1, f2, f3, l⟩, w => (f0 = 1 ∧ w = []) ∨ (f0 = 2 ∧ w = [f1]) ∨ (f0 = 3 ∧ LangS l w) ∨ (f0 = 4 ∧ LangA l w) ∨ (f0 = 5 ∧ LangR f2 f3 l w)
def LangS : List Pr.S24 → List Int → Prop
 | [], w => w = []
 | x :: l, w => Cat (LangE x) (LangS l) w
def LangA : List Pr.S24 → List Int → Prop
 | [], _ => False
 | x :: l, w => LangE x w ∨ LangA l w
def LangR (lo hi : Int) : List Pr.S24 → List Int → Prop
 | [], _ => False
 | x :: _, w => TimesI (LangE x) lo hi w
end
theorem langE_eq (x : Pr.S24) (w : List Int) : LangE x w ↔ ((x.f0 = 1 ∧ w = []) ∨ (x.f0 = 2 ∧ w = [x.f1]) ∨ (x.f0 = 3 ∧ LangS x.f4 w) ∨ (x.f0 = 4 ∧ LangA x.f4 w) ∨ (x.f0 = 5 ∧ LangR x.f2 x.f3 x.f4 w)) := by
 cases x; simp only [LangE]
noncomputable def dec (P : Prop) : Bool := @decide P (Classical.propDecidable P)
theorem dec_iff {P : Prop} : dec P = true ↔ P := by unfold dec; exact @decide_eq_true_iff P (Classical.propDecidable P)
theorem dec_true {P : Prop} (h : P) : dec P = true := dec_iff.2 h
theorem dec_false {P : Prop} (h : ¬ P) : dec P = false := by
 cases e : dec P with
 | false => rfl
 | true => exact (h (dec_iff.1 e)).elim
theorem dec_not {P : Prop} (h : dec P = false) : ¬ P := fun hp => by rw [dec_true hp] at h; cases h
theorem dec_congr {P Q : Prop} (h : P ↔ Q) : dec P = dec Q := by
 by_cases hp : P
 ·rw [dec_true hp, dec_true (h.1 hp)]
 ·rw [dec_false hp, dec_false (fun hq => hp (h.2 hq))]
theorem dec_eq_dec {P Q : Prop} (h : dec P = dec Q) : P ↔ Q := by rw [← dec_iff (P := P), ← dec_iff (P := Q), h]
noncomputable def rowP (n : Nat) (P : Nat → Prop) : List Bool := (List.range (n + 1)).map fun j => dec (P j)
theorem rowP_len (n : Nat) (P : Nat → Prop) : (rowP n P).length = n + 1 := by simp [rowP]
theorem rowP_get {n : Nat} {P : Nat → Prop} {j : Nat} (h : j ≤ n) : (rowP n P)[j]? = some (dec (P j)) := by
 unfold rowP
 rw [List.getElem?_map, List.getElem?_range (by omega)]
 rfl
theorem rowP_rd {n : Nat} {P : Nat → Prop} {j : Nat} (h : j ≤ n) : rdOf false (rowP n P) (j : Int) = dec (P j) := by
 unfold rdOf
 rw [Int.toNat_natCast, List.getD_eq_getElem?_getD, rowP_get h]
 rfl
theorem rowP_ext {n : Nat} {P Q : Nat → Prop} (h : ∀ j, j ≤ n → (P j ↔ Q j)) : rowP n P = rowP n Q := by
 unfold rowP
 refine List.map_congr_left fun j hj => ?_
 rw [List.mem_range] at hj
 exact dec_congr (h j (by omega))
theorem row_ext {n : Nat} {P : Nat → Prop} {l : List Bool} (hl : l.length = n + 1) (h : ∀ j, j ≤ n → (l[j]? = some true ↔ P j)) : l = rowP n P := by
 apply List.ext_getElem?
 intro j
 by_cases hj : j ≤ n
 ·rw [rowP_get hj]
  have h1 := h j hj
  rw [List.getElem?_eq_getElem (by omega)] at h1 ⊢
  congr 1
  by_cases hp : P j
  ·rw [dec_true hp]; exact Option.some.inj (h1.2 hp)
  ·rw [dec_false hp]
   cases hb : l[j] with
   | false => rfl
   | true => exact (hp (h1.1 (by rw [hb]))).elim
 ·rw [List.getElem?_eq_none (by omega), List.getElem?_eq_none (by rw [rowP_len]; omega)]
theorem rowP_some {n : Nat} {P : Nat → Prop} {j : Nat} (h : j ≤ n) : (rowP n P)[j]? = some true ↔ P j := by
 rw [rowP_get h]
 constructor
 ·intro e; exact dec_iff.1 (Option.some.inj e)
 ·intro e; rw [dec_true e]
theorem rowP_set {n : Nat} {P : Nat → Prop} {i : Nat} (hi : i ≤ n) : (rowP n P).set i true = rowP n (fun j => P j ∨ j = i) := by
 refine row_ext (by rw [List.length_set, rowP_len]) fun j hj => ?_
 rw [List.getElem?_set]
 by_cases h : i = j
 ·subst h; simp [rowP_len]; omega
 ·rw [if_neg h, rowP_some hj]; constructor
  ·exact .inl
  ·rintro (h1 | h1); exact h1; exact (h h1.symm).elim
theorem rowP_none (n : Nat) : List.replicate (n + 1) false = rowP n (fun _ => False) := by
 refine row_ext (by simp) fun j hj => ?_
 rw [List.getElem?_replicate, if_pos (by omega)]
 simp
theorem joinB_loop (a0 b : List Bool) : ∀ (d k i : Nat) (a : List Bool) (m : Bool), a.length = b.length → b.length = i + d → d < k → b.length < 4611686018427387904 →
  ∃ r m', Pr.glush_join.l0 k a m b (b.length : Int) (i : Int) = some (m', r) ∧ r.length = a.length ∧ (∀ j, r[j]? = if i ≤ j ∧ j < a.length then some (a.getD j false || b.getD j false) else a[j]?) ∧ (m' = true ↔ m = true ∨ ∃ j, i ≤ j ∧ j < a.length ∧ b.getD j false = true ∧ a.getD j false = false) := by
 intro d
 induction d with
 | zero =>
  intro k i a m ha hb hk hm
  obtain ⟨k, rfl⟩ : ∃ q, k = q + 1 := ⟨k - 1, by omega⟩
  refine ⟨a, m, ?_, rfl, fun j => ?_, ?_⟩
  ·simp only [Pr.glush_join.l0]
   rw [if_neg (by omega)]
  ·rw [if_neg (by omega)]
  ·constructor
   ·exact .inl
   ·rintro (h | ⟨j, h1, h2, _⟩); exact h; omega
 | succ d ih =>
  intro k i a m ha hb hk hm
  obtain ⟨k, rfl⟩ : ∃ q, k = q + 1 := ⟨k - 1, by omega⟩
  have hw : wrap64 ((i : Int) + 1) = ((i + 1 : Nat) : Int) := by unfold wrap64; omega
  have hi : i < a.length := by omega
  have ea : rdOf false a (i : Int) = a.getD i false := by unfold rdOf; rw [Int.toNat_natCast]
  have eb : rdOf false b (i : Int) = b.getD i false := by unfold rdOf; rw [Int.toNat_natCast]
  obtain ⟨r, m', h1, h2, h3, h4⟩ := ih k (i + 1) (a.set i (a.getD i false || b.getD i false)) (m || (b.getD i false && !a.getD i false)) (by rw [List.length_set]; exact ha) (by omega) (by omega) hm
  refine ⟨r, m', ?_, by rw [h2, List.length_set], fun j => ?_, ?_⟩
  ·rw [← h1]
   simp only [Pr.glush_join.l0]
   rw [if_pos (by omega), if_pos (by omega), if_pos (by omega), hw, Int.toNat_natCast, ea, eb]
   have hl1 : (i : Int) < (a.length : Int) := by omega
   clear h1 h2 h3 h4 ih ea eb hw
   cases m <;> cases a.getD i false <;> cases b.getD i false <;> simp [hl1]
  ·rw [h3 j, List.length_set]
   by_cases hj : j = i
   ·subst hj
    rw [if_neg (by omega), if_pos (by omega), List.getElem?_set]
    simp [hi]
   ·have e1 : (a.set i (a.getD i false || b.getD i false))[j]? = a[j]? := by rw [List.getElem?_set, if_neg (Ne.symm hj)]
    have e2 : (a.set i (a.getD i false || b.getD i false)).getD j false = a.getD j false := by rw [List.getD_eq_getElem?_getD, e1, ← List.getD_eq_getElem?_getD]
    rw [e1, e2]
    by_cases hc : i + 1 ≤ j ∧ j < a.length
    ·rw [if_pos hc, if_pos (by omega)]
    ·rw [if_neg hc, if_neg (by omega)]
  ·rw [h4, Bool.or_eq_true, Bool.and_eq_true]
   have e2 : ∀ j, j ≠ i → (a.set i (a.getD i false || b.getD i false)).getD j false = a.getD j false := fun j hj => by rw [List.getD_eq_getElem?_getD, List.getElem?_set, if_neg (Ne.symm hj), ← List.getD_eq_getElem?_getD]
   constructor
   ·rintro ((h | ⟨h5, h6⟩) | ⟨j, h5, h6, h7, h8⟩)
    ·exact .inl h
    ·exact .inr ⟨i, Nat.le_refl _, hi, h5, by simpa using h6⟩
    ·rw [List.length_set] at h6
     rw [e2 j (by omega)] at h8
     exact .inr ⟨j, by omega, h6, h7, h8⟩
   ·rintro (h | ⟨j, h5, h6, h7, h8⟩)
    ·exact .inl (.inl h)
    ·by_cases hj : j = i
     ·subst hj; exact .inl (.inr ⟨h7, by rw [h8]; rfl⟩)
     ·exact .inr ⟨j, by omega, by rw [List.length_set]; exact h6, h7, by rw [e2 j hj]; exact h8⟩
theorem rowP_getD {n : Nat} {P : Nat → Prop} {j : Nat} (h : j ≤ n) : (rowP n P).getD j false = dec (P j) := by
 rw [List.getD_eq_getElem?_getD, rowP_get h]; rfl
theorem join_row (n k : Nat) (P Q : Nat → Prop) (hk : n + 1 < k) (hn : n < 1048576) : ∃ m : Bool, Pr.glush_join.f k (rowP n P) (rowP n Q) = some (m, rowP n (fun j => P j ∨ Q j)) ∧ (m = true ↔ ∃ j, j ≤ n ∧ Q j ∧ ¬ P j) := by
 obtain ⟨r, m, h1, h2, h3, h4⟩ := joinB_loop (rowP n P) (rowP n Q) (n + 1) k 0 (rowP n P) false (by rw [rowP_len, rowP_len]) (by rw [rowP_len]; omega) hk (by rw [rowP_len]; omega)
 have e : r = rowP n (fun j => P j ∨ Q j) := row_ext (by rw [h2, rowP_len]) fun j hj => by
  rw [h3 j, rowP_len, if_pos (by omega), rowP_getD hj, rowP_getD hj]
  simp only [Option.some.injEq, Bool.or_eq_true, dec_iff]
 subst e
 refine ⟨m, h1, ?_⟩
 rw [h4]
 constructor
 ·rintro (h | ⟨j, _, h5, h6, h7⟩)
  ·cases h
  ·rw [rowP_len] at h5
   rw [rowP_getD (by omega)] at h6 h7
   exact ⟨j, by omega, dec_iff.1 h6, dec_not h7⟩
 ·rintro ⟨j, h5, h6, h7⟩
  refine .inr ⟨j, Nat.zero_le _, by rw [rowP_len]; omega, ?_, ?_⟩
  ·rw [rowP_getD h5]; exact dec_true h6
  ·rw [rowP_getD h5]; exact dec_false h7
theorem equal_loop (a b : List Bool) : ∀ (d k i : Nat), a.length = b.length → a.length = i + d → d < k → a.length < 4611686018427387904 →
  ∃ r, Pr.slices_Equal_bool_bool.l0 k a b (a.length : Int) (i : Int) = some r ∧ (r = true ↔ ∀ j, i ≤ j → j < a.length → a.getD j false = b.getD j false) := by
 intro d
 induction d with
 | zero =>
  intro k i ha hb hk hm
  obtain ⟨k, rfl⟩ : ∃ q, k = q + 1 := ⟨k - 1, by omega⟩
  refine ⟨true, ?_, ?_⟩
  ·simp only [Pr.slices_Equal_bool_bool.l0]
   rw [if_neg (by omega)]
  ·exact ⟨fun _ j h1 h2 => by omega, fun _ => rfl⟩
 | succ d ih =>
  intro k i ha hb hk hm
  obtain ⟨k, rfl⟩ : ∃ q, k = q + 1 := ⟨k - 1, by omega⟩
  have hw : wrap64 ((i : Int) + 1) = ((i + 1 : Nat) : Int) := by unfold wrap64; omega
  have ea : rdOf false a (i : Int) = a.getD i false := by unfold rdOf; rw [Int.toNat_natCast]
  have eb : rdOf false b (i : Int) = b.getD i false := by unfold rdOf; rw [Int.toNat_natCast]
  obtain ⟨r, h1, h2⟩ := ih k (i + 1) ha (by omega) (by omega) hm
  by_cases he : a.getD i false = b.getD i false
  ·refine ⟨r, ?_, ?_⟩
   ·simp only [Pr.slices_Equal_bool_bool.l0]
    rw [if_pos (by omega), if_pos (by omega), if_pos (by omega), if_pos (by omega), ea, eb, he, if_neg (by simp), hw]
    exact h1
   ·rw [h2]
    constructor
    ·intro h j h5 h6
     by_cases hj : j = i
     ·subst hj; exact he
     ·exact h j (by omega) h6
    ·intro h j h5 h6; exact h j (by omega) h6
  ·refine ⟨false, ?_, ?_⟩
   ·simp only [Pr.slices_Equal_bool_bool.l0]
    rw [if_pos (by omega), if_pos (by omega), if_pos (by omega), if_pos (by omega), ea, eb, if_pos (by simpa using he)]
   ·constructor
    ·intro h; cases h
    ·intro h; exact (he (h i (Nat.le_refl _) (by omega))).elim
theorem equal_row (n k : Nat) (P Q : Nat → Prop) (hk : n + 1 < k) (hn : n < 1048576) : ∃ m : Bool, Pr.slices_Equal_bool_bool.f k (rowP n P) (rowP n Q) = some m ∧ (m = true ↔ ∀ j, j ≤ n → (P j ↔ Q j)) := by
 obtain ⟨r, h1, h2⟩ := equal_loop (rowP n P) (rowP n Q) (n + 1) k 0 (by rw [rowP_len, rowP_len]) (by rw [rowP_len]; omega) hk (by rw [rowP_len]; omega)
 refine ⟨r, ?_, ?_⟩
 ·unfold Pr.slices_Equal_bool_bool.f
  rw [if_pos (by rw [rowP_len, rowP_len])]
  exact h1
 ·rw [h2]
  constructor
  ·intro h j hj
   have := h j (Nat.zero_le _) (by rw [rowP_len]; omega)
   rw [rowP_getD hj, rowP_getD hj] at this
   exact dec_eq_dec this
  ·intro h j _ hj
   rw [rowP_len] at hj
   rw [rowP_getD (by omega), rowP_getD (by omega)]
   exact dec_congr (h j (by omega))
def seg (w : List Int) (i j : Nat) : List Int := (w.drop i).take (j - i)
def To (ws : List Int) (L : List Int → Prop) (i j : Nat) : Prop := i ≤ j ∧ j ≤ ws.length ∧ L (seg ws i j)
theorem seg_self (w : List Int) (i : Nat) : seg w i i = [] := by simp [seg]
theorem seg_nil {w : List Int} {i j : Nat} (h : i ≤ j) (hj : j ≤ w.length) (he : seg w i j = []) : i = j := by
 have : (seg w i j).length = j - i := by unfold seg; rw [List.length_take, List.length_drop]; omega
 rw [he] at this
 simp at this
 omega
theorem seg_len {w : List Int} {i j : Nat} (h : i ≤ j) (hj : j ≤ w.length) : (seg w i j).length = j - i := by unfold seg; rw [List.length_take, List.length_drop]; omega
theorem seg_cat {w : List Int} {i m j : Nat} (h1 : i ≤ m) (h2 : m ≤ j) : seg w i j = seg w i m ++ seg w m j := by
 unfold seg
 have : j - i = (m - i) + (j - m) := by omega
 rw [this, List.take_add, List.drop_drop]
 congr 2
 rw [show i + (m - i) = m by omega]
theorem seg_split {w : List Int} {i j : Nat} {u v : List Int} (h : i ≤ j) (hj : j ≤ w.length) (he : seg w i j = u ++ v) : i + u.length ≤ j ∧ seg w i (i + u.length) = u ∧ seg w (i + u.length) j = v := by
 have hl := seg_len h hj
 rw [he, List.length_append] at hl
 have h1 : i + u.length ≤ j := by omega
 have h2 := seg_cat (w := w) (i := i) (m := i + u.length) (j := j) (by omega) h1
 rw [he] at h2
 have h3 : (seg w i (i + u.length)).length = u.length := by rw [seg_len (by omega) (by omega)]; omega
 have h4 := List.append_inj h2.symm h3
 exact ⟨h1, h4.1, h4.2⟩
theorem to_cat (ws : List Int) (L M : List Int → Prop) (i j : Nat) : To ws (Cat L M) i j ↔ ∃ m, To ws L i m ∧ To ws M m j := by
 constructor
 ·rintro ⟨h1, h2, u, v, he, hu, hv⟩
  obtain ⟨h3, h4, h5⟩ := seg_split h1 h2 he
  exact ⟨i + u.length, ⟨by omega, by omega, by rw [h4]; exact hu⟩, h3, h2, by rw [h5]; exact hv⟩
 ·rintro ⟨m, ⟨h1, h2, h3⟩, h4, h5, h6⟩
  exact ⟨by omega, h5, _, _, seg_cat h1 h4, h3, h6⟩
theorem to_eps (ws : List Int) (i j : Nat) (hi : i ≤ ws.length) : To ws (fun w => w = []) i j ↔ j = i := by
 constructor
 ·rintro ⟨h1, h2, h3⟩; exact (seg_nil h1 h2 h3).symm
 ·rintro rfl; exact ⟨Nat.le_refl _, hi, seg_self ws j⟩
theorem seg_one {ws : List Int} {i : Nat} (h : i < ws.length) : seg ws i (i + 1) = [ws.getD i 0] := by
 unfold seg
 rw [show i + 1 - i = 1 by omega, List.drop_eq_getElem_cons h, List.take_succ_cons, List.take_zero, List.getD_eq_getElem?_getD, List.getElem?_eq_getElem h]
 rfl
theorem to_sym (ws : List Int) (s : Int) (i j : Nat) : To ws (fun w => w = [s]) i j ↔ (i < ws.length ∧ ws.getD i 0 = s ∧ j = i + 1) := by
 constructor
 ·rintro ⟨h1, h2, h3⟩
  have := seg_len h1 h2
  rw [h3] at this
  simp at this
  have hj : j = i + 1 := by omega
  subst hj
  have hi : i < ws.length := by omega
  rw [seg_one hi] at h3
  exact ⟨hi, by simpa using h3, rfl⟩
 ·rintro ⟨h1, h2, rfl⟩
  exact ⟨by omega, by omega, by rw [seg_one h1, h2]⟩
theorem to_congr {ws : List Int} {L M : List Int → Prop} (h : ∀ w, L w ↔ M w) (i j : Nat) : To ws L i j ↔ To ws M i j := by unfold To; rw [h]
theorem to_all (ws : List Int) (L : List Int → Prop) : To ws L 0 ws.length ↔ L ws := by
 unfold To seg
 simp
end Go.Proofs.YthocjdlcopmhiaaDoor.G
namespace Go.Proofs.YthocjdlcopmhiaaDoor.G
open Go.RowKit Go.Proofs.YthocjdlcopmhiaaDoorW.PrintWords Go.Proofs.YthocjdlcopmhiaaDoorW.PrintLast Go.Proofs.YthocjdlcopmhiaaDoorW.PrintMore
attribute [local go_sem] max2_int min2_int max_two min_two max_three min_three max_four min_four
set_option linter.unusedVariables false
set_option linter.unusedSimpArgs false
open GP (Cat Eps Pow)
abbrev KN : Kd Pr.S63 := Pr.k63
abbrev NC (x : Pr.S63) (A4 : Option Addr) (c4 : Nat) (A6 : Option Addr) (c6 : Nat) : List Value := [.int .i64 x.f0.f0, .int .i64 x.f0.f1, .int .i64 x.f0.f2, .int .i64 x.f0.f3, .slice A4 x.f0.f4.length c4, .int .i64 x.f1, .slice A6 x.f2.length c6]
abbrev NV (x : Pr.S63) (A4 : Option Addr) (c4 : Nat) (A6 : Option Addr) (c6 : Nat) : Value := .agg #[.int .i64 x.f0.f0, .int .i64 x.f0.f1, .int .i64 x.f0.f2, .int .i64 x.f0.f3, .slice A4 x.f0.f4.length c4, .int .i64 x.f1, .slice A6 x.f2.length c6]
abbrev NB (x : Pr.S63) (A4 : Option Addr) (c4 : Nat) (A6 : Option Addr) (c6 : Nat) : Obj := .cells #[.int .i64 x.f0.f0, .int .i64 x.f0.f1, .int .i64 x.f0.f2, .int .i64 x.f0.f3, .slice A4 x.f0.f4.length c4, .int .i64 x.f1, .slice A6 x.f2.length c6] 63 (0, 0)
structure Step (bm : Nat) (w w' : World) : Prop where
 k : Kept w w' (fun k => k = bm)
 b : Below bm w w'
theorem Step.refl (bm : Nat) (w : World) : Step bm w w := ⟨Kept.refl _ _, Below.refl _ _⟩
theorem Step.trans {bm : Nat} {w w1 w2 : World} (h : Step bm w w1) (h2 : Step bm w1 w2) : Step bm w w2 := ⟨h.k.then_ h2.k (fun _ h => .inl h), h.b.trans h2.b⟩
theorem Step.below {bm : Nat} {w w1 w2 : World} (h : Step bm w w1) (hb : Below w1.heap.size w1 w2) (hbm : bm ≤ w1.heap.size) : Step bm w w2 := ⟨h.k.below hb, h.b.trans (hb.mono hbm)⟩
theorem Step.drew {bm : Nat} {w w1 : World} (h : Step bm w w1) : Step bm w w1.drew := ⟨h.k.drew, below_drew h.b⟩
theorem Step.set {bm : Nat} {w w1 : World} (h : Step bm w w1) {p : Addr} (hp : w.heap.size ≤ p.block) (hb : bm ≤ p.block) (u : Value) : Step bm w (w1.setCell p u) := ⟨h.k.setCell (.inr hp) u, h.b.setCell hb u⟩
theorem Step.size {bm : Nat} {w w1 : World} (h : Step bm w w1) : w.heap.size ≤ w1.heap.size := h.k.1
theorem cut_world (w : World) (b : Nat) (hb : b ≤ w.heap.size) : ∃ T : World, T.heap.size = b ∧ Below T.heap.size T w ∧ ∀ w', Below T.heap.size T w' → w.heap.size ≤ w'.heap.size → Below b w w' := by
 have hs : ({ w with heap := w.heap.extract 0 b } : World).heap.size = b := by simp; omega
 have hblk : ∀ i, i < b → ({ w with heap := w.heap.extract 0 b } : World).heap[i]? = w.heap[i]? := fun i hi => by
  show (w.heap.extract 0 b)[i]? = _
  rw [Array.getElem?_extract]
  simp; omega
 refine ⟨{ w with heap := w.heap.extract 0 b }, hs, ⟨rfl, rfl, rfl, by rw [hs]; exact hb, fun i hi => ?_⟩, fun w' h hsz => ⟨h.os, h.tape, h.output, by omega, fun i hi => ?_⟩⟩
 ·rw [hs] at hi; exact (hblk i hi).symm
 ·exact (h.block i (by rw [hs]; exact hi)).trans (hblk i hi)
structure Env (W0 : World) (gm bm : Nat) (ws : List Int) (Aw : Option Addr) (cw : Nat) : Prop where
 m : W0.heap[gm]? = some (.cells #[.slice Aw ws.length cw, .int .i64 0, .map (some bm)] 60 (0, 0))
 ne : gm ≠ bm
 w : Kd.V (Kd.int .i64) 3 W0 0 (fun k => k ≠ bm) (.slice Aw ws.length cw) ws
 len : ws.length < 1048576
noncomputable def rowL (ws : List Int) (L : List Int → Prop) (i : Nat) : List Bool := rowP ws.length (To ws L i)
theorem rowL_len (ws : List Int) (L : List Int → Prop) (i : Nat) : (rowL ws L i).length = ws.length + 1 := rowP_len _ _
theorem rowL_congr {ws : List Int} {L M : List Int → Prop} (h : ∀ w, L w ↔ M w) (i : Nat) : rowL ws L i = rowL ws M i := rowP_ext fun j _ => to_congr h i j
abbrev RowV (bm : Nat) (Z : Nat → Prop) (w : World) (A : Option Addr) (c : Nat) (l : List Bool) : Prop := Kd.V Kd.bool 4 w 0 (fun k => k ≠ bm ∧ ¬ Z k) (.slice A l.length c) l
def Good (Lg : Int → List Int → Prop) (ws : List Int) (bm : Nat) (Z : Nat → Prop) (w : World) (key val : Value) : Prop :=
 ∃ (id : Int) (i : Nat) (A : Option Addr) (c : Nat), key = key2 id i ∧ 0 ≤ id ∧ id < 4611686018427387904 ∧ i ≤ ws.length ∧ val = .slice A (rowL ws (Lg id) i).length c ∧ RowV bm Z w A c (rowL ws (Lg id) i)
def Memo (Lg : Int → List Int → Prop) (ws : List Int) (bm : Nat) (Z : Nat → Prop) (w : World) : Prop := ∃ es clock, w.heap[bm]? = some (.map es clock) ∧ ∀ e ∈ es.toList, Good Lg ws bm Z w e.key e.val
section
variable {Lg : Int → List Int → Prop} {ws : List Int} {bm : Nat} {Z Z' S : Nat → Prop} {w w' : World}
theorem Memo.kept (h : Memo Lg ws bm Z w) (hk : Kept w w' S) (hS : ∀ k, S k → Z k) (hb : ¬ Z bm) : Memo Lg ws bm Z w' := by
 obtain ⟨es, clock, h1, h2⟩ := h
 refine ⟨es, clock, blk_kept h1 hk (fun h => hb (hS _ h)), fun e he => ?_⟩
 obtain ⟨id, i, A, c, e1, e2, e3, e4, e5, e6⟩ := h2 e he
 exact ⟨id, i, A, c, e1, e2, e3, e4, e5, Kd.V_kept e6 hk (fun k h3 h4 => h3.2 (hS k h4))⟩
theorem Memo.below (h : Memo Lg ws bm Z w) (hb : Below w.heap.size w w') : Memo Lg ws bm Z w' := by
 obtain ⟨es, clock, h1, h2⟩ := h
 refine ⟨es, clock, blk_below h1 hb, fun e he => ?_⟩
 obtain ⟨id, i, A, c, e1, e2, e3, e4, e5, e6⟩ := h2 e he
 exact ⟨id, i, A, c, e1, e2, e3, e4, e5, Kd.V_below e6 hb⟩
theorem Memo.drew (h : Memo Lg ws bm Z w) : Memo Lg ws bm Z w.drew := h.below (below_drew (Below.refl _ _))
theorem Memo.zone (h : Memo Lg ws bm Z w) (hz : ∀ k, Z' k → Z k ∨ w.heap.size ≤ k) : Memo Lg ws bm Z' w := by
 obtain ⟨es, clock, h1, h2⟩ := h
 refine ⟨es, clock, h1, fun e he => ?_⟩
 obtain ⟨id, i, A, c, e1, e2, e3, e4, e5, e6⟩ := h2 e he
 exact ⟨id, i, A, c, e1, e2, e3, e4, e5, Kd.V_mono (Kd.V_bound e6) (fun k hk => ⟨hk.1.1, fun hz' => (hz k hz').elim hk.1.2 (fun h => by have := hk.2; omega)⟩)⟩
theorem Memo.lt (h : Memo Lg ws bm Z w) : bm < w.heap.size := by
 obtain ⟨es, clock, h1, _⟩ := h
 exact blk_lt h1
end
def RowPost (Lg : Int → List Int → Prop) (ws : List Int) (bm : Nat) (Z : Nat → Prop) (w : World) (l : List Bool) (e : Ending) (w' : World) : Prop :=
 ∃ A c, e = .returned (.slice A l.length c) ∧ RowV bm Z w' A c l ∧ Memo Lg ws bm Z w' ∧ Step bm w w'
def FromOk (Lg : Int → List Int → Prop) (W0 : World) (gm bm : Nat) (ws : List Int) (x : Pr.S63) : Prop :=
 ∀ (Z : Nat → Prop) (w : World) (i : Nat) (A4 : Option Addr) (c4 : Nat) (A6 : Option Addr) (c6 : Nat), Step bm W0 w → Memo Lg ws bm Z w → ¬ Z bm → (∀ k, Z k → k < w.heap.size) → i ≤ ws.length → Kd.FK KN W0 (fun k => k ≠ bm) x (NC x A4 c4 A6 c6) →
  Calls Tryd.prog 22 #[.pointer (some ⟨gm, 0, none⟩), NV x A4 c4 A6 c6, .int .i64 (i : Int)] w (RowPost Lg ws bm Z w (rowL ws (Lg x.f1) i))
noncomputable def onL (ws : List Int) (L : List Int → Prop) (P : Nat → Prop) : List Bool := rowP ws.length (fun p => ∃ i, i ≤ ws.length ∧ P i ∧ To ws L i p)
def OnOk (Lg : Int → List Int → Prop) (W0 : World) (gm bm : Nat) (ws : List Int) (x : Pr.S63) : Prop :=
 ∀ (Z : Nat → Prop) (w : World) (P : Nat → Prop) (Al : Option Addr) (cl : Nat) (A4 : Option Addr) (c4 : Nat) (A6 : Option Addr) (c6 : Nat), Step bm W0 w → Memo Lg ws bm Z w → ¬ Z bm → (∀ k, Z k → k < w.heap.size) →
  Kd.V Kd.bool 4 w 0 (fun k => k ≠ bm) (.slice Al (rowP ws.length P).length cl) (rowP ws.length P) → Kd.FK KN W0 (fun k => k ≠ bm) x (NC x A4 c4 A6 c6) →
  Calls Tryd.prog 36 #[.pointer (some ⟨gm, 0, none⟩), NV x A4 c4 A6 c6, .slice Al (rowP ws.length P).length cl] w (RowPost Lg ws bm Z w (onL ws (Lg x.f1) P))
theorem FromOk.call {Lg : Int → List Int → Prop} {W0 : World} {gm bm : Nat} {ws : List Int} {x : Pr.S63} (h : FromOk Lg W0 gm bm ws x) (Z : Nat → Prop) (w : World) (i : Nat) (A4 : Option Addr) (c4 : Nat) (A6 : Option Addr) (c6 : Nat) (h1 : Step bm W0 w) (h2 : Memo Lg ws bm Z w) (h3 : ¬ Z bm) (h4 : ∀ k, Z k → k < w.heap.size) (h5 : i ≤ ws.length) (h6 : Kd.FK KN W0 (fun k => k ≠ bm) x (NC x A4 c4 A6 c6)) :
  Calls Tryd.prog 22 #[.pointer (some ⟨gm, 0, none⟩), NV x A4 c4 A6 c6, .int .i64 (i : Int)] w (RowPost Lg ws bm Z w (rowL ws (Lg x.f1) i)) := h Z w i A4 c4 A6 c6 h1 h2 h3 h4 h5 h6
theorem R_at {w : World} {b g n c : Nat} {ok : Nat → Prop} {xs : List Bool} (h : Kd.R Kd.bool 4 w b ok (.slice (some ⟨g, 0, none⟩) n c) xs) : Kd.R Kd.bool 4 w g (fun k => k = g) (.slice (some ⟨g, 0, none⟩) n c) xs :=
 Kd.R_raise (b := b) (b' := g) (fun _ _ _ _ h => h) (Kd.R_mono (Kd.R_tight rfl h) (fun k hk => by simpa [Value.ownBlock] using hk)) (fun k hk => by simp [Value.ownBlock] at hk; omega)
theorem R_view {w : World} {g n c : Nat} {ok : Nat → Prop} {xs : List Bool} (h : Kd.R Kd.bool 4 w g (fun k => k = g) (.slice (some ⟨g, 0, none⟩) n c) xs) (hok : ok g) : Kd.V Kd.bool 4 w 0 ok (.slice (some ⟨g, 0, none⟩) xs.length c) xs := by
 have h2 := (Kd.R_reads' h).1
 subst h2
 exact Kd.V_mono (Kd.R_V h) (fun k hk => by subst hk; exact hok)
theorem join_calls (n : Nat) (hn : n < 1048576) (P Q : Nat → Prop) (w : World) (g c : Nat) (A1 : Option Addr) (c1 : Nat) (hR : Kd.R Kd.bool 4 w g (fun k => k = g) (.slice (some ⟨g, 0, none⟩) (n + 1) c) (rowP n P)) (hV : Kd.V Kd.bool 4 w 0 (fun k => k ≠ g) (.slice A1 (rowP n Q).length c1) (rowP n Q)) :
  Calls Tryd.prog 35 #[.slice (some ⟨g, 0, none⟩) (n + 1) c, .slice A1 (rowP n Q).length c1] w fun e w' => (∃ m : Bool, e = .returned (.bool m) ∧ (m = true ↔ ∃ j, j ≤ n ∧ Q j ∧ ¬ P j)) ∧ Kd.R Kd.bool 4 w' g (fun k => k = g) (.slice (some ⟨g, 0, none⟩) (n + 1) c) (rowP n (fun j => P j ∨ Q j)) ∧ Kept w w' (fun k => k = g) ∧ Below g w w' := by
 obtain ⟨m, h1, h2⟩ := join_row n (n + 2) P Q (by omega) hn
 have hg := Kd.R_lt hR g rfl
 obtain ⟨T, hT1, hT2, hT3⟩ := cut_world w g (Nat.le_of_lt hg)
 have hR2 : Kd.R Kd.bool 4 w T.heap.size (fun k => k = g) (.slice (some ⟨g, 0, none⟩) (n + 1) c) (rowP n P) := by rw [hT1]; exact hR
 refine (Pr.glush_join.calls (n + 2) (fun k => k = g) _ (rowP n P) A1 c1 (rowP n Q) m _ T w hT2 hR2 (fun W_ hk => Kd.F_now (Kd.V_at (Kd.V_kept hV hk (fun _ h1 h2 => h1 h2))).2.2) (Kd.V_at hV).2.1 h1).mono ?_
 rintro e w' ⟨rfl, hr, hb, hk⟩
 refine ⟨⟨m, rfl, h2⟩, ?_, hk, hT3 w' hb hk.1⟩
 rw [hT1] at hr
 exact Kd.R_mono (Kd.R_tight rfl hr) (fun k hk => by simpa [Value.ownBlock] using hk)
end Go.Proofs.YthocjdlcopmhiaaDoor.G
namespace Go.Proofs.YthocjdlcopmhiaaDoor.G
open Go.RowKit Go.Proofs.YthocjdlcopmhiaaDoorW.PrintWords Go.Proofs.YthocjdlcopmhiaaDoorW.PrintLast Go.Proofs.YthocjdlcopmhiaaDoorW.PrintMore
attribute [local go_sem] max2_int min2_int max_two min_two max_three min_three max_four min_four
set_option linter.unusedVariables false
set_option linter.unusedSimpArgs false
open GP (Cat Eps Pow)
def onP (ws : List Int) (L : List Int → Prop) (P : Nat → Prop) (i : Nat) (p : Nat) : Prop := ∃ q, q < i ∧ P q ∧ To ws L q p
theorem onP_zero (ws : List Int) (L : List Int → Prop) (P : Nat → Prop) (n : Nat) : rowP n (onP ws L P 0) = rowP n (fun _ => False) := rowP_ext fun j _ => ⟨fun ⟨q, h, _⟩ => by omega, fun h => h.elim⟩
theorem onP_step {ws : List Int} {L : List Int → Prop} {P : Nat → Prop} {i : Nat} (n : Nat) (h : P i) : rowP n (fun p => onP ws L P i p ∨ To ws L i p) = rowP n (onP ws L P (i + 1)) := rowP_ext fun j _ => by
 constructor
 ·rintro (⟨q, h1, h2, h3⟩ | h1)
  ·exact ⟨q, by omega, h2, h3⟩
  ·exact ⟨i, by omega, h, h1⟩
 ·rintro ⟨q, h1, h2, h3⟩
  by_cases hq : q = i
  ·subst hq; exact .inr h3
  ·exact .inl ⟨q, by omega, h2, h3⟩
theorem onP_skip {ws : List Int} {L : List Int → Prop} {P : Nat → Prop} {i : Nat} (n : Nat) (h : ¬ P i) : rowP n (onP ws L P i) = rowP n (onP ws L P (i + 1)) := rowP_ext fun j _ => by
 constructor
 ·rintro ⟨q, h1, h2, h3⟩; exact ⟨q, by omega, h2, h3⟩
 ·rintro ⟨q, h1, h2, h3⟩
  by_cases hq : q = i
  ·subst hq; exact (h h2).elim
  ·exact ⟨q, by omega, h2, h3⟩
theorem onP_all (ws : List Int) (L : List Int → Prop) (P : Nat → Prop) : rowP ws.length (onP ws L P (ws.length + 1)) = onL ws L P := rowP_ext fun j _ => by
 constructor
 ·rintro ⟨q, h1, h2, h3⟩; exact ⟨q, by omega, h2, h3⟩
 ·rintro ⟨q, h1, h2, h3⟩; exact ⟨q, by omega, h2, h3⟩
theorem seven {w : World} {g : Nat} {t : TypeId} {v0 v1 v2 v3 v4 v5 v6 : Value} (h : w.heap[g]? = some (.cells #[v0, v1, v2, v3, v4, v5, v6] t (0, 0))) : w.cell? ⟨g, 0, none⟩ = some v0 ∧ w.cell? ⟨g, 1, none⟩ = some v1 ∧ w.cell? ⟨g, 2, none⟩ = some v2 ∧ w.cell? ⟨g, 3, none⟩ = some v3 ∧ w.cell? ⟨g, 4, none⟩ = some v4 ∧ w.cell? ⟨g, 5, none⟩ = some v5 ∧ w.cell? ⟨g, 6, none⟩ = some v6 :=
 ⟨(blk_cell h 0).trans rfl, (blk_cell h 1).trans rfl, (blk_cell h 2).trans rfl, (blk_cell h 3).trans rfl, (blk_cell h 4).trans rfl, (blk_cell h 5).trans rfl, (blk_cell h 6).trans rfl⟩
set_option maxHeartbeats 4000000 in
set_option maxRecDepth 100000 in
theorem on_calls (Lg : Int → List Int → Prop) (W0 : World) (gm bm : Nat) (ws : List Int) (Aw : Option Addr) (cw : Nat) (x : Pr.S63) (henv : Env W0 gm bm ws Aw cw) (hx : FromOk Lg W0 gm bm ws x) : OnOk Lg W0 gm bm ws x := by
 intro Z w P Al cl A4 c4 A6 c6 hst hm hZb hZ hl hxk
 have hu63 := Tryd.underlying63; have hu24 := Tryd.underlying24
 have hlen : (rowP ws.length P).length = ws.length + 1 := rowP_len _ _
 have hn := henv.len
 generalize hN : ws.length = n at hlen hn hl
 have HE := Lib.hid henv; have HX := Lib.hid hx; have HST := Lib.hid hst; have HM := Lib.hid hm; have HZB := Lib.hid hZb; have HZ := Lib.hid hZ; have HL := Lib.hid hl; have HXK := Lib.hid hxk; have HNN := Lib.hid hN; have HLEN := Lib.hid hlen; have HN := Lib.hid hn
 clear henv hx hst hm hZb hZ hl hxk
 generalize hrow : rowP n P = row at HL HLEN hlen ⊢
 have HROW := Lib.hid hrow; clear hrow
 go_enter Tryd.func36, Tryd.ntmps36
 go_wp2_with (first | ((with_reducible refine gate_dst (N := 12) rfl ?_); refine Kd.R_make (w0 := w.alloc _) Kd.bool (w.heap.size + 1) 4 rfl (N := 12) rfl 66 _ _ rfl ((n : Int) + 1) ?hx ?hy Tryd.underlying66 (.bool false) 1 (by kernel_rfl) rfl (by decide) (by decide) false (ok := fun _ => True) (okp := fun _ => True) rfl (fun _ hk => hk) trivial (by omega) (by omega) (by have := Below.refl (w.alloc (NB x A4 c4 A6 c6)).heap.size (w.alloc (NB x A4 c4 A6 c6)); simpa using this) (by simp) ?_; (case hx => rfl); (case hy => rfl); intro v1 w1 ho1 hb1 hg1 hn1; have HO1 := Lib.hid ho1; have HB1 := Lib.hid hb1; clear ho1 hb1 hg1 hn1))
 clear hlen
 have hr1 := HO1.out
 rw [show ((n : Int) + 1).toNat = n + 1 by omega, rowP_none, ← onP_zero ws (Lg x.f1) P n] at hr1
 obtain ⟨g, c, rfl, hgb, hglt, _⟩ := Kd.R_form hr1 (by rw [rowP_len]; omega)
 rw [rowP_len] at hr1
 have hb0 : Below w.heap.size w w1 := (below_alloc (Below.refl w.heap.size w) (NB x A4 c4 A6 c6)).trans (HB1.out.mono (Nat.le_succ _))
 have KX1 := Lib.hid (show w1.heap[w.heap.size]? = some (NB x A4 c4 A6 c6) from (HB1.out.block _ (Nat.lt_succ_self _)).trans (blk_new w _))
 have hbm := HM.out.lt
 have HBM := Lib.hid hbm
 have HR1 := Lib.hid (R_at hr1)
 have HG := Lib.hid (show w.heap.size < g by omega)
 have HST1 := Lib.hid ((Step.refl bm w).below hb0 (Nat.le_of_lt hbm))
 have HM1 := Lib.hid ((HM.out.zone (Z' := fun k => Z k ∨ k = g) (fun k hk => hk.elim .inl (fun h => .inr (by omega)))).below hb0)
 clear hr1 hgb hglt hb0 hbm HO1 HB1
 rw [rowP_len]
 go_loopg [15] (n + 1) (fun kq v15 w' => ∃ (i : Nat), v15 = .int .i64 i ∧ Hid (i ≤ n + 1) ∧ Hid (kq = n + 1 - i) ∧ Hid (Kd.R Kd.bool 4 w' g (fun k => k = g) (.slice (some ⟨g, 0, none⟩) (n + 1) c) (rowP n (onP ws (Lg x.f1) P i))) ∧ Hid (Memo Lg ws bm (fun k => Z k ∨ k = g) w') ∧ Hid (Step bm w w') ∧ Hid (w'.heap[w.heap.size]? = some (NB x A4 c4 A6 c6)) ∧ Hid (g < w'.heap.size))
 case atStart => exact ⟨0, rfl, Lib.hid (Nat.zero_le _), Lib.hid rfl, HR1, HM1, HST1, KX1, Lib.hid (Kd.R_lt HR1.out g rfl)⟩
 case round =>
  obtain ⟨i, rfl, HI, HQ, HRi, HMi, HSi, KXi, HGi⟩ := hrel
  clear HR1 HM1 HST1 KX1
  have HLi := Lib.hid (Kd.V_kept HL.out HSi.out.k (fun _ h1 h2 => h1 h2))
  by_cases hlt : i < n + 1
  ·have hlt2 : decide ((i : Int) < (row.length : Int)) = true := decide_eq_true (by have := HLEN.out; omega)
   have hlt3 : decide ((i : Int) < (n : Int) + 1) = true := decide_eq_true (by omega)
   obtain ⟨adl, eal, hcl⟩ := Kd.at_bool (Kd.V_reads' HLi.out).2.2 (i : Int) (by omega) (by have := HLEN.out; omega)
   subst eal
   rw [Int.toNat_natCast, ← HROW.out, rowP_rd (by omega)] at hcl
   have HLT := Lib.hid hlt
   have hp0 : (0 ≤ (i : Int)) = True := eq_true (by omega)
   have hp1 : ((i : Int) < (n : Int) + 1) = True := eq_true (by omega)
   have hw : wrap64 ((i : Int) + 1) = ((i + 1 : Nat) : Int) := by have := HN.out; unfold wrap64; omega
   clear hlt
   by_cases hP : P i
   ·rw [dec_true hP] at hcl
    obtain ⟨x0, x1, x2, x3, x4, x5, x6⟩ := seven KXi.out
    go_wp2_with (fail)
    clear x0 x1 x2 x3 x4 x5 x6 hcl
    have hiw : i ≤ ws.length := by have := HLT.out; have := HNN.out; omega
    refine (FromOk.call HX.out (fun k => Z k ∨ k = g) wr i A4 c4 A6 c6 (HST.out.trans HSi.out) HMi.out (fun h => h.elim HZB.out (fun h => by have := HG.out; have := HBM.out; omega)) (fun k hk => hk.elim (fun h => Nat.lt_of_lt_of_le (HZ.out k h) HSi.out.size) (fun h => by rw [h]; exact HGi.out)) hiw HXK.out).mono ?_
    rintro e w3 ⟨A3, c3, rfl, hv3, hm3, hs3⟩
    have HR3 := Lib.hid (Kd.R_kept HRi.out hs3.k (fun k h1 h2 => by have := HG.out; have := HBM.out; omega))
    have HV3 := Lib.hid (Kd.V_mono hv3 (fun k hk => fun h => hk.2 (.inr h)))
    have HM3 := Lib.hid hm3; have HS3 := Lib.hid (HSi.out.trans hs3); have KX3 := Lib.hid (blk_kept KXi.out hs3.k (fun h => by have := HBM.out; omega)); have HG3 := Lib.hid (Nat.lt_of_lt_of_le HGi.out hs3.size)
    clear hv3 hm3 hs3 HMi HRi HSi KXi HGi hiw
    have hlr : (rowL ws (Lg x.f1) i).length = n + 1 := by rw [rowL_len, HNN.out]
    go_wp2_with (fail)
    clear hlr
    have e1 : rowL ws (Lg x.f1) i = rowP n (To ws (Lg x.f1) i) := by unfold rowL; rw [HNN.out]
    rw [e1] at HV3
    refine calls_of_args (args' := #[.slice (some ⟨g, 0, none⟩) (n + 1) c, .slice A3 (rowP n (To ws (Lg x.f1) i)).length c3]) (by rw [rowP_len]) ((join_calls n HN.out (onP ws (Lg x.f1) P i) (To ws (Lg x.f1) i) w3 g c A3 c3 HR3.out HV3.out).mono ?_)
    rintro e w4 ⟨⟨mm, rfl, _⟩, hr4, hk4, hb4⟩
    rw [onP_step n hP] at hr4
    have HR4 := Lib.hid hr4
    have HM4 := Lib.hid (HM3.out.kept hk4 (fun k h => .inr h) (fun h => h.elim HZB.out (fun h => by have := HG.out; have := HBM.out; omega)))
    have HS4 : Hid (Step bm w w4) := Lib.hid ⟨HS3.out.k.then_ hk4 (fun k h => .inr (by have := HG.out; omega)), HS3.out.b.trans (hb4.mono (by have := HG.out; have := HBM.out; omega))⟩
    have KX4 := Lib.hid (blk_kept KX3.out hk4 (fun h => by have := HG.out; omega))
    have HG4 := Lib.hid (Nat.lt_of_lt_of_le HG3.out hk4.1)
    clear hr4 hk4 hb4 HR3 HM3 HS3 KX3 HG3 HV3 e1
    go_wp2_with (fail)
    go_roundg (n + 1 - (i + 1))
    case measure => have h1 := HLT.out; have h2 := HQ.out; omega
    case rel => exact ⟨i + 1, by rw [hw], Lib.hid (by have := HLT.out; omega), Lib.hid rfl, HR4, HM4, HS4, KX4, HG4⟩
   ·rw [dec_false hP] at hcl
    have HR3 := HRi; have HM3 := HMi; have HS3 := HSi; have KX3 := KXi; have HG3 := HGi
    rw [onP_skip n hP] at HR3
    clear HRi HMi HSi KXi HGi
    go_wp2_with (fail)
    go_roundg (n + 1 - (i + 1))
    case measure => have h1 := HLT.out; have h2 := HQ.out; omega
    case rel => exact ⟨i + 1, by rw [hw], Lib.hid (by have := HLT.out; omega), Lib.hid rfl, HR3, HM3, HS3, KX3, HG3⟩
  ·have hi : i = n + 1 := by have := HI.out; omega
   subst hi
   have hlt3 : decide (((n : Int) + 1) < (n : Int) + 1) = false := decide_eq_false (by omega)
   have hr := HRi.out
   have hN := HNN.out
   subst hN
   rw [onP_all] at hr
   go_wp2_with (fail)
   go_ret
   have el : (onL ws (Lg x.f1) P).length = ws.length + 1 := rowP_len _ _
   refine ⟨some ⟨g, 0, none⟩, c, by rw [el]; rfl, R_view hr ⟨by have := HG.out; have := HBM.out; omega, fun hz => by have := HZ.out g hz; have := HG.out; omega⟩, HMi.out.zone (fun k hk => .inl (.inl hk)), HSi.out⟩
end Go.Proofs.YthocjdlcopmhiaaDoor.G
