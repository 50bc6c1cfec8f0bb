import Derived.Test.YthocjdlcopmhiaaDoorProg
import Derived.Below
import Derived.Deep.Draws
import Derived.Deep.AppendLies
import Derived.Maps.AppendAt
import Derived.OwnWalk
import Derived.Laws.BytesArg
import Derived.Laws.MakeOwn
import Derived.Laws.OwnMore
import Derived.Deep.OwnRows
import Derived.Tactics
import Derived.Lib.ConvBytes
import Derived.Laws.Slices
import Derived.WalkKit
import Derived.KernelRfl
import Derived.RowKit3
import Derived.Deep.LoopGhost
import Derived.Deep.QuietTactic
import Derived.BigQuiet
import Derived.WideLaws
import Derived.Deep.DeepCutAuto
import Derived.Deep.CutBlock
import Derived.Deep.RegionHeld3
import Derived.Laws.Rows
import Derived.Lib.AppendStr
import Derived.ArgAppend
import Derived.Laws.IdiomCopy
import Derived.OrdersHeld
import Derived.Laws.BitsLemmas
import Derived.RowKit
import Derived.Test.YthocjdlcopmhiaaDoorWWords
import Derived.Test.YthocjdlcopmhiaaDoorWLast
import Derived.Test.YthocjdlcopmhiaaDoorWTab
import Derived.Test.YthocjdlcopmhiaaDoorWQPut
import Derived.Test.YthocjdlcopmhiaaDoorWApart
import Derived.Test.YthocjdlcopmhiaaDoorWArr
import Derived.Test.YthocjdlcopmhiaaDoorWZeros
import Derived.Test.YthocjdlcopmhiaaDoorWFoot
import Derived.Test.YthocjdlcopmhiaaDoorWKept
import Derived.Test.YthocjdlcopmhiaaDoorWShare
import Derived.Test.YthocjdlcopmhiaaDoorWN
import Derived.Test.YthocjdlcopmhiaaDoorWRepsOne
import Derived.Test.YthocjdlcopmhiaaDoorWGuard
import Derived.Test.YthocjdlcopmhiaaDoorWNEv
import Derived.Test.YthocjdlcopmhiaaDoorWMore
import Derived.Test.YthocjdlcopmhiaaDoorWEqStruct
import Derived.Test.YthocjdlcopmhiaaDoorWFour
import Derived.Test.YthocjdlcopmhiaaDoorWFootNe
import Derived.Test.YthocjdlcopmhiaaDoorWAt
import Derived.Test.YthocjdlcopmhiaaDoorWInv
import Derived.Test.YthocjdlcopmhiaaDoorWInvWords
import Derived.Test.YthocjdlcopmhiaaDoorM13
import Derived.Deep.Slices
import Derived.OpenShut
import Derived.ShutString
import Derived.ChangeOld
import Derived.SizedLaws
import Derived.ProofKit
namespace Go.Proofs.YthocjdlcopmhiaaDoor.G
open Go.RowKit Go.Proofs.YthocjdlcopmhiaaDoorW.PrintWords Go.Proofs.YthocjdlcopmhiaaDoorW.PrintLast Go.Proofs.YthocjdlcopmhiaaDoorW.PrintMore
attribute [local go_sem] max2_int min2_int max_two min_two max_three min_three max_four min_four
set_option linter.unusedVariables false
set_option linter.unusedSimpArgs false
open Go.ChangeShapes Go.WideShapes Go.RowKit
section
variable {H : Type} {enc : TypeId × Value → H} {W : World} {base : Nat} {sp : Nat → Bool} {hd : Bool}
theorem list5 {α : Type} {cs : List α} (h : cs.length = 5) : ∃ c0 c1 c2 c3 c4, cs = [c0, c1, c2, c3, c4] := by
 match cs, h with
 | [c0, c1, c2, c3, c4], _ => exact ⟨c0, c1, c2, c3, c4, rfl⟩
theorem choose_list {α : Type} {n : Nat} {P : Nat → α → Prop} (h : ∀ i, i < n → ∃ x, P i x) : ∃ l : List α, l.length = n ∧ ∀ i x, l[i]? = some x → P i x := by
 induction n with
 | zero => exact ⟨[], rfl, fun i x hx => by cases hx⟩
 | succ n ih =>
  obtain ⟨l, h1, h2⟩ := ih (fun i hi => h i (Nat.lt_succ_of_lt hi))
  obtain ⟨x, hx⟩ := h n (Nat.lt_succ_self n)
  refine ⟨l ++ [x], by simp [h1], fun i y hy => ?_⟩
  by_cases hi : i < l.length
  ·rw [List.getElem?_append_left hi] at hy; exact h2 i y hy
  ·rw [List.getElem?_append_right (by omega)] at hy
   by_cases h0 : i - l.length = 0
   ·rw [h0] at hy
    have e1 : x = y := Option.some.inj hy
    have e2 : i = n := by omega
    rw [← e1, e2]; exact hx
   ·rw [List.getElem?_eq_none (by simp; omega)] at hy; cases hy
theorem cells_e : Tryd.prog.cellsOf 24 = 5 := by kernel_rfl
theorem cells_i : Tryd.prog.cellsOf 3 = 1 := by kernel_rfl
theorem cells_l : Tryd.prog.cellsOf 22 = 1 := by kernel_rfl
theorem max_le1 : maxLen ≤ 9223372036854775807 := by decide +kernel
set_option maxRecDepth 100000 in
theorem open_expr : ∀ (n : Nat) (cs : List Value) (x : DataW H × List MemPlace), DataW.trod enc Tryd.prog W base sp hd n 24 cs = some x →
  ∃ (e : Pr.S24) (A : Option Addr) (c : Nat), cs = [.int .i64 e.f0, .int .i64 e.f1, .int .i64 e.f2, .int .i64 e.f3, .slice A e.f4.length c] ∧ E24 W e A c := by
 intro n
 induction n using Nat.strongRecOn with
 | _ n ih =>
  intro cs x h
  obtain ⟨xs, m, rfl, _, hlen, hxl, hf⟩ := DataW.trod_struct Tryd.underlying24 h
  rw [cells_e] at hlen
  obtain ⟨v0, v1, v2, v3, v4, rfl⟩ := list5 hlen
  have hxl5 : xs.length = 5 := hxl
  have g0 : DataW.trod enc Tryd.prog W base sp hd m 3 [v0] = some (xs[0]'(by omega)) := by have := hf 0 _ rfl; rw [List.getElem?_eq_getElem (by omega)] at this; simpa [cells_i] using this
  have g1 : DataW.trod enc Tryd.prog W base sp hd m 3 [v1] = some (xs[1]'(by omega)) := by have := hf 1 _ rfl; rw [List.getElem?_eq_getElem (by omega)] at this; simpa [cells_i] using this
  have g2 : DataW.trod enc Tryd.prog W base sp hd m 3 [v2] = some (xs[2]'(by omega)) := by have := hf 2 _ rfl; rw [List.getElem?_eq_getElem (by omega)] at this; simpa [cells_i] using this
  have g3 : DataW.trod enc Tryd.prog W base sp hd m 3 [v3] = some (xs[3]'(by omega)) := by have := hf 3 _ rfl; rw [List.getElem?_eq_getElem (by omega)] at this; simpa [cells_i] using this
  have g4 : DataW.trod enc Tryd.prog W base sp hd m 22 [v4] = some (xs[4]'(by omega)) := by have := hf 4 _ rfl; rw [List.getElem?_eq_getElem (by omega)] at this; simpa [cells_l] using this
  obtain ⟨a0, e0, _⟩ := DataW.trod_int Tryd.underlying3 g0
  obtain ⟨a1, e1, _⟩ := DataW.trod_int Tryd.underlying3 g1
  obtain ⟨a2, e2, _⟩ := DataW.trod_int Tryd.underlying3 g2
  obtain ⟨a3, e3, _⟩ := DataW.trod_int Tryd.underlying3 g3
  injection e0 with e0 _; injection e1 with e1 _; injection e2 with e2 _; injection e3 with e3 _
  subst e0; subst e1; subst e2; subst e3
  rcases DataW.trod_slice Tryd.underlying22 g4 with ⟨h4, _⟩ | ⟨a, len, cap, elems, rest, k, rfl, h4, _, _, hle, hmax, hel, hall, _, _⟩
  ·injection h4 with h4 _
   subst h4
   exact ⟨⟨a0, a1, a2, a3, []⟩, none, 0, rfl, E24.nil⟩
  ·injection h4 with h4 _
   subst h4
   rw [cells_e] at hall
   have hone : ∀ i, i < len → ∃ e : Pr.S24, ∃ cs' : List Value, Pr.k24.K W e cs' ∧ cs'.length = 5 ∧ ∀ j w, cs'[j]? = some w → W.cell? (a.add (i * 5 + j)) = some w := by
    intro i hi
    have h1 := hall i hi
    rw [List.getElem?_eq_getElem (by omega)] at h1
    obtain ⟨cs', h2, h3⟩ := Option.bind_eq_some_iff.1 h1
    obtain ⟨_, h5, h6⟩ := World.cells?_some h2
    obtain ⟨e, A, c, rfl, hE⟩ := ih k (by omega) _ _ h3
    refine ⟨e, _, hE.K, rfl, fun j w hj => ?_⟩
    have hj5 : j < 5 := (List.getElem?_eq_some_iff.1 hj).1
    rw [← Deep.add_add, h6 j hj5, hj]
   obtain ⟨l, hl, hP⟩ := choose_list hone
   refine ⟨⟨a0, a1, a2, a3, l⟩, some a, cap, by rw [hl], ⟨⟨rfl, ?_, fun _ => ⟨a, rfl, fun j p hj => ?_⟩⟩, ?_⟩⟩
   ·show l.length ≤ _
    have := max_le1
    omega
   ·obtain ⟨cs', h1, h2, h3⟩ := hP j p hj
    exact ⟨cs', h2, h1, h3⟩
   ·show l.length ≤ cap
    omega
set_option maxRecDepth 100000 in
theorem open_E {r : Reach} {b0 : Nat} {v : Value} {d : DataW H} {p : List MemPlace} (hval : Value.okWide Tryd.prog W r b0 24 v) (h : DataW.Trod enc Tryd.prog W base sp hd 24 v d p) : ∃ (e : Pr.S24) (A : Option Addr) (c : Nat), v = EV e A c ∧ E24 W e A c := by
 obtain ⟨cs, rfl, _⟩ := okWide_struct Tryd.underlying24 hval
 obtain ⟨n, h⟩ := h
 obtain ⟨e, A, c, h1, h2⟩ := open_expr n _ _ h
 refine ⟨e, A, c, ?_, h2⟩
 have h3 : cs.toList = [.int .i64 e.f0, .int .i64 e.f1, .int .i64 e.f2, .int .i64 e.f3, .slice A e.f4.length c] := h1
 show Value.agg cs = Value.agg #[.int .i64 e.f0, .int .i64 e.f1, .int .i64 e.f2, .int .i64 e.f3, .slice A e.f4.length c]
 congr 1
 cases cs
 simpa using h3
set_option maxRecDepth 100000 in
theorem open_I {r : Reach} {b0 : Nat} {v : Value} {d : DataW H} {p : List MemPlace} (hval : Value.okWide Tryd.prog W r b0 25 v) (h : DataW.Trod enc Tryd.prog W base (fun _ => true) hd 25 v d p) : ∃ (l : List Int) (A : Option Addr) (c : Nat), v = .slice A l.length c ∧ I24 W l A c ∧ l.length < 9223372036854775808 := by
 obtain ⟨a, len, cap, rfl⟩ := okWide_slice Tryd.underlying25 hval
 obtain ⟨n, h⟩ := h
 rcases open_ints Tryd.underlying25 Tryd.underlying3 cells_i h with ⟨hcs, _⟩ | ⟨x, l, c, zs, hcs, _, hl, hm, hz, _, hcell, _⟩
 ·simp [Value.cells] at hcs
  obtain ⟨rfl, rfl, rfl⟩ := hcs
  exact ⟨[], none, 0, rfl, ⟨Kd.C_nil KI W, Nat.le_refl _⟩, by decide⟩
 ·simp [Value.cells] at hcs
  obtain ⟨rfl, rfl, rfl⟩ := hcs
  have hz : zs.length = cap := by simpa using hz
  have hmx := max_le1
  have htl : (zs.take len).length = len := by rw [List.length_take]; omega
  refine ⟨zs.take len, some x, cap, by rw [htl], ⟨⟨rfl, by rw [htl]; omega, fun _ => ⟨x, rfl, fun j p hj => ⟨[.int .i64 p], rfl, rfl, fun i u hu => ?_⟩⟩⟩, by rw [htl]; exact hl⟩, by rw [htl]; omega⟩
  cases i with
  | succ i => cases hu
  | zero =>
   have hj1 : j < len := by have := (List.getElem?_eq_some_iff.1 hj).1; omega
   have hc := hcell j (by omega)
   have e : zs.getD j 0 = p := by
    rw [List.getElem?_take, if_pos hj1] at hj
    rw [List.getD_eq_getElem?_getD, hj]; rfl
   rw [show j * KI.sz + 0 = j from by show j * 1 + 0 = j; omega, hc, e]
   simpa using hu
end
end Go.Proofs.YthocjdlcopmhiaaDoor.G
