import Derived.Test.YthocjdlcopmhiaaDoorProg
import Derived.Below
import Derived.Deep.Draws
import Derived.Deep.AppendLies
import Derived.Maps.AppendAt
import Derived.OwnWalk
import Derived.Laws.BytesArg
import Derived.Laws.MakeOwn
import Derived.Laws.OwnMore
import Derived.Deep.OwnRows
import Derived.Tactics
import Derived.Lib.ConvBytes
import Derived.Laws.Slices
import Derived.WalkKit
import Derived.KernelRfl
import Derived.RowKit3
import Derived.Deep.LoopGhost
import Derived.Deep.QuietTactic
import Derived.BigQuiet
import Derived.WideLaws
import Derived.Deep.DeepCutAuto
import Derived.Deep.CutBlock
import Derived.Deep.RegionHeld3
import Derived.Laws.Rows
import Derived.Lib.AppendStr
import Derived.ArgAppend
import Derived.Laws.IdiomCopy
import Derived.OrdersHeld
import Derived.Laws.BitsLemmas
import Derived.RowKit
import Derived.Test.YthocjdlcopmhiaaDoorWWords
import Derived.Test.YthocjdlcopmhiaaDoorWLast
import Derived.Test.YthocjdlcopmhiaaDoorWTab
import Derived.Test.YthocjdlcopmhiaaDoorWQPut
import Derived.Test.YthocjdlcopmhiaaDoorWApart
import Derived.Test.YthocjdlcopmhiaaDoorWArr
import Derived.Test.YthocjdlcopmhiaaDoorWZeros
import Derived.Test.YthocjdlcopmhiaaDoorWFoot
import Derived.Test.YthocjdlcopmhiaaDoorWKept
import Derived.Test.YthocjdlcopmhiaaDoorWShare
import Derived.Test.YthocjdlcopmhiaaDoorWN
import Derived.Test.YthocjdlcopmhiaaDoorWRepsOne
import Derived.Test.YthocjdlcopmhiaaDoorWGuard
import Derived.Test.YthocjdlcopmhiaaDoorWNEv
import Derived.Test.YthocjdlcopmhiaaDoorWMore
import Derived.Test.YthocjdlcopmhiaaDoorWEqStruct
import Derived.Test.YthocjdlcopmhiaaDoorWFour
import Derived.Test.YthocjdlcopmhiaaDoorWFootNe
import Derived.Test.YthocjdlcopmhiaaDoorWAt
import Derived.Test.YthocjdlcopmhiaaDoorWInv
import Derived.Test.YthocjdlcopmhiaaDoorWInvWords
import Derived.Test.YthocjdlcopmhiaaDoorM13
namespace Go.Proofs.YthocjdlcopmhiaaDoor.G
open Go.RowKit Go.Proofs.YthocjdlcopmhiaaDoorW.PrintWords Go.Proofs.YthocjdlcopmhiaaDoorW.PrintLast Go.Proofs.YthocjdlcopmhiaaDoorW.PrintMore
attribute [local go_sem] max2_int min2_int max_two min_two max_three min_three max_four min_four
set_option linter.unusedVariables false
set_option linter.unusedSimpArgs false
open GP (Cat Eps Pow)
def eNone : Pr.S24 := ⟨6, 0, 0, 0, []⟩
def eEmpty : Pr.S24 := ⟨1, 0, 0, 0, []⟩
def unitL (e : Pr.S24) : List Pr.S24 := [⟨4, 0, 0, 0, [eNone, e, eNone]⟩, ⟨3, 0, 0, 0, [eEmpty, e, eEmpty]⟩, ⟨5, 0, 1, 1, [e]⟩, ⟨3, 0, 0, 0, [e, eNone]⟩, ⟨4, 0, 0, 0, []⟩, ⟨5, 0, 0, 0, [e]⟩]
theorem none_no (w : List Int) : ¬ LangE eNone w := by simp [eNone, LangE]
theorem empty_is (w : List Int) : LangE eEmpty w ↔ w = [] := by simp [eEmpty, LangE]
theorem lang3 (a b c d : Int) (l : List Pr.S24) (h : a = 3) (w : List Int) : LangE ⟨a, b, c, d, l⟩ w ↔ LangS l w := by subst h; simp [LangE]
theorem lang4 (a b c d : Int) (l : List Pr.S24) (h : a = 4) (w : List Int) : LangE ⟨a, b, c, d, l⟩ w ↔ LangA l w := by subst h; simp [LangE]
theorem lang5 (a b c d : Int) (y : Pr.S24) (h : a = 5) (w : List Int) : LangE ⟨a, b, c, d, [y]⟩ w ↔ TimesI (LangE y) c d w := by subst h; simp [LangE, LangR]
theorem u_alt (e : Pr.S24) (w : List Int) : LangE ⟨4, 0, 0, 0, [eNone, e, eNone]⟩ w ↔ LangE e w := by
 rw [lang4 _ _ _ _ _ rfl]
 simp only [LangA]
 exact ⟨fun h => by rcases h with h | h | h | h; exact (none_no w h).elim; exact h; exact (none_no w h).elim; exact h.elim, fun h => .inr (.inl h)⟩
theorem u_seq (e : Pr.S24) (w : List Int) : LangE ⟨3, 0, 0, 0, [eEmpty, e, eEmpty]⟩ w ↔ LangE e w := by
 rw [lang3 _ _ _ _ _ rfl]
 simp only [LangS]
 constructor
 ·rintro ⟨u, v, rfl, h1, u2, v2, rfl, h2, u3, v3, rfl, h3, h4⟩
  rw [(empty_is u).1 h1, (empty_is u3).1 h3, h4]
  simpa using h2
 ·intro h
  exact ⟨[], w, rfl, (empty_is _).2 rfl, w, [], by simp, h, [], [], rfl, (empty_is _).2 rfl, rfl⟩
theorem u_rep1 (e : Pr.S24) (w : List Int) : LangE ⟨5, 0, 1, 1, [e]⟩ w ↔ LangE e w := by
 rw [lang5 _ _ _ _ _ rfl]
 constructor
 ·rintro ⟨j, h1, h2, h3⟩
  obtain rfl : j = 1 := by rcases h2 with h2 | h2; cases h2; omega
  obtain ⟨u, v, rfl, h4, h5⟩ := h3
  have h4' : u = [] := h4
  subst h4'
  exact h5
 ·intro h
  exact ⟨1, by decide, .inr (by decide), [], w, rfl, rfl, h⟩
theorem u_dead (e : Pr.S24) (w : List Int) : ¬ LangE ⟨3, 0, 0, 0, [e, eNone]⟩ w := by
 rw [lang3 _ _ _ _ _ rfl]
 simp only [LangS]
 rintro ⟨u, v, rfl, h1, u2, v2, rfl, h2, _⟩
 exact none_no _ h2
theorem u_alt0 (w : List Int) : ¬ LangE ⟨4, 0, 0, 0, []⟩ w := by
 rw [lang4 _ _ _ _ _ rfl]
 simp [LangA]
theorem u_rep0 (e : Pr.S24) (w : List Int) : LangE ⟨5, 0, 0, 0, [e]⟩ w ↔ w = [] := by
 rw [lang5 _ _ _ _ _ rfl]
 constructor
 ·rintro ⟨j, h1, h2, h3⟩
  obtain rfl : j = 0 := by rcases h2 with h2 | h2; cases h2; omega
  exact h3
 ·rintro rfl
  exact ⟨0, by decide, .inr (by decide), rfl⟩
theorem u_cnt (e : Pr.S24) : ∀ x ∈ unitL e, cntE x ≤ cntE e := by
 intro x hx
 have h1 : cntE eNone = 0 := by simp [eNone, cntE]
 have h2 : cntE eEmpty = 0 := by simp [eEmpty, cntE]
 simp only [unitL, List.mem_cons, List.not_mem_nil, or_false] at hx
 have t1 : tms 1 1 = 1 := by decide
 have t0 : tms 0 0 = 0 := by decide
 rcases hx with rfl | rfl | rfl | rfl | rfl | rfl
 all_goals rw [cntE_eq]; simp [cntL, h1, h2, t1, t0]
abbrev EB (e : Pr.S24) (A : Option Addr) (c : Nat) : Obj := .cells #[.int .i64 e.f0, .int .i64 e.f1, .int .i64 e.f2, .int .i64 e.f3, .slice A e.f4.length c] 24
abbrev EBk (e : Pr.S24) (A : Option Addr) (c : Nat) : Obj := .cells #[.int .i64 e.f0, .int .i64 e.f1, .int .i64 e.f2, .int .i64 e.f3, .slice A e.f4.length c] 24 (0, 0)
end Go.Proofs.YthocjdlcopmhiaaDoor.G
namespace Go.Proofs.YthocjdlcopmhiaaDoor.G
open Go.RowKit Go.Proofs.YthocjdlcopmhiaaDoorW.PrintWords Go.Proofs.YthocjdlcopmhiaaDoorW.PrintLast Go.Proofs.YthocjdlcopmhiaaDoorW.PrintMore
attribute [local go_sem] max2_int min2_int max_two min_two max_three min_three max_four min_four
set_option linter.unusedVariables false
set_option linter.unusedSimpArgs false
open GP (Cat Eps Pow)
set_option maxHeartbeats 8000000 in
set_option maxRecDepth 100000 in
theorem units_calls (w : World) (e : Pr.S24) (A : Option Addr) (c : Nat) (ws : List Int) (Aw : Option Addr) (cw : Nat) (htab : HTab w) (he : E24 w e A c) (hw : I24 w ws Aw cw) (hwl : ws.length < 9223372036854775808) :
  Calls Tryd.prog 4 #[EV e A c, .slice Aw ws.length cw] w fun en w' => en = .returned (.bool true) ∧ Below w.heap.size w w' := by
 have hu24 := Tryd.underlying24; have hu33 := Tryd.underlying33
 have HT := Lib.hid htab; have HE := Lib.hid he; have HW := Lib.hid hw; have HWL := Lib.hid hwl
 clear htab he hw hwl
 go_enter Tryd.func4, Tryd.ntmps4
 go_upto_region 1 with (fail)
 generalize hw1 : w.alloc (EB e A c) = w1
 have b1 : Below w.heap.size w w1 := hw1 ▸ below_alloc (Below.refl _ _) _
 have KE1 := Lib.hid (show w1.heap[w.heap.size]? = some (EBk e A c) by rw [← hw1]; exact blk_new _ _)
 have HB1 := Lib.hid b1
 clear hw1 b1
 generalize w.heap.size = g at KE1 ⊢
 go_wp2_with (fail)
 refine (known_calls w1 (HT.out.below HB1.out)).mono ?_
 rintro en w2 ⟨rfl, hb⟩
 have HB2 := Lib.hid (below_step HB1.out hb); have KE2 := Lib.hid (blk_below KE1.out hb)
 clear hb HB1 KE1
 obtain ⟨x0, x1, x2, x3, x4⟩ := cls5 KE2.out
 go_wp2_with (fail)
 refine (few_c (HE.out.below HB2.out)).mono ?_
 rintro en w3 ⟨⟨b, rfl⟩, hb⟩
 have HB3 := Lib.hid (below_step HB2.out hb); have KE3 := Lib.hid (blk_below KE2.out hb)
 clear hb HB2 KE2
 cases b with
 | false =>
  go_wp2_with (fail)
  go_ret
  exact ⟨rfl, HB3.out⟩
 | true =>
 by_cases hl8 : (8 : Int) < (ws.length : Int)
 ·have hl8b : decide ((8 : Int) < (ws.length : Int)) = true := decide_eq_true hl8
  clear hl8
  go_wp2_with (fail)
  go_ret
  exact ⟨rfl, HB3.out⟩
 have hl8b : decide ((8 : Int) < (ws.length : Int)) = false := decide_eq_false hl8
 have HL8 := Lib.hid hl8
 clear hl8 x0 x1 x2 x3 x4
 obtain ⟨x0, x1, x2, x3, x4⟩ := cls5 KE3.out
 go_wp2_with (fail)
 refine (check_c (HE.out.below HB3.out)).mono ?_
 rintro en w4 ⟨⟨r, rfl, hr⟩, hb⟩
 have HB4 := Lib.hid (below_step HB3.out hb); have KE4 := Lib.hid (blk_below KE3.out hb)
 clear hb HB3 KE3
 by_cases hr0 : r = 0
 rotate_left
 ·have hrb : (r != 0) = true := bne_iff_ne.mpr hr0
  clear hr0 hr
  go_wp2_with (fail)
  go_ret
  exact ⟨rfl, HB4.out⟩
 have HR := Lib.hid (hr hr0)
 subst hr0
 clear hr x0 x1 x2 x3 x4
 obtain ⟨x0, x1, x2, x3, x4⟩ := cls5 KE4.out
 go_wp2_with (fail)
 refine (cost_c (HE.out.below HB4.out) HR.out).mono ?_
 rintro en w5 ⟨rfl, hb⟩
 have HB5 := Lib.hid (below_step HB4.out hb); have KE5 := Lib.hid (blk_below KE4.out hb)
 clear hb HB4 KE4
 by_cases hc : (60 : Int) < min ((cntE e : Nat) : Int) 201
 ·have hcb : decide ((60 : Int) < min ((cntE e : Nat) : Int) 201) = true := decide_eq_true hc
  clear hc
  go_wp2_with (fail)
  go_ret
  exact ⟨rfl, HB5.out⟩
 have hcb : decide ((60 : Int) < min ((cntE e : Nat) : Int) 201) = false := decide_eq_false hc
 have HC60 := Lib.hid (show cntE e ≤ 60 by omega)
 clear hc x0 x1 x2 x3 x4
 obtain ⟨x0, x1, x2, x3, x4⟩ := cls5 KE5.out
 go_upto_region 5 with (fail)
 clear hl8b hcb x0 x1 x2 x3 x4
 go_upto_region 7 with (fail)
 generalize hwn : w5.alloc (.cells #[.int .i64 6, .int .i64 0, .int .i64 0, .int .i64 0, .slice none 0 0] 24) = wn
 have bn : Below w5.heap.size w5 wn := hwn ▸ below_alloc (Below.refl _ _) _
 have kn : wn.heap[w5.heap.size]? = some (EBk eNone none 0) := by rw [← hwn]; exact blk_new _ _
 have sn : wn.heap.size = w5.heap.size + 1 := by rw [← hwn]; simp
 generalize hw6 : wn.alloc (.cells #[.int .i64 1, .int .i64 0, .int .i64 0, .int .i64 0, .slice none 0 0] 24) = w6
 have bm : Below wn.heap.size wn w6 := hw6 ▸ below_alloc (Below.refl _ _) _
 have km : w6.heap[w5.heap.size + 1]? = some (EBk eEmpty none 0) := by rw [← sn, ← hw6]; exact blk_new _ _
 have KN6 := Lib.hid (blk_below kn bm); have KM6 := Lib.hid km
 have HB6 := Lib.hid (below_step (below_step HB5.out bn) bm); have KE6 := Lib.hid (blk_below (blk_below KE5.out bn) bm)
 clear hwn hw6 bn kn sn bm km HB5 KE5 wn
 generalize w5.heap.size + 1 = gm at KM6 ⊢
 generalize w5.heap.size = gn at KN6 ⊢
 obtain ⟨x0, x1, x2, x3, x4⟩ := cls5 KE6.out
 go_wp2_with (fail)
 clear x0 x1 x2 x3 x4
 refine (word_c (HE.out.below HB6.out) (HW.out.below HB6.out) (by have := HL8.out; omega) HR.out).mono ?_
 rintro en w7 ⟨⟨is, rfl, hbb⟩, hb⟩
 have HIS := Lib.hid hbb
 have HB7 := Lib.hid (below_step HB6.out hb); have KE7 := Lib.hid (blk_below KE6.out hb); have KN7 := Lib.hid (blk_below KN6.out hb); have KM7 := Lib.hid (blk_below KM6.out hb)
 clear hb HB6 KE6 KN6 KM6 hbb
 obtain ⟨x0, x1, x2, x3, x4⟩ := cls5 KE7.out
 obtain ⟨y0, y1, y2, y3, y4⟩ := cls5 KN7.out
 obtain ⟨z0, z1, z2, z3, z4⟩ := cls5 KM7.out
 have L1 := Lib.hid (blk_lt KE7.out); have L2 := Lib.hid (blk_lt KN7.out); have L3 := Lib.hid (blk_lt KM7.out)
 have A1 : ∀ (q i : Nat) (_ : q < w7.heap.size) (o1 : Obj), (w7.alloc o1).cell? ⟨q, i, none⟩ = w7.cell? ⟨q, i, none⟩ := fun q i h o1 => World.cell?_alloc_lt _ _ _ h
 have A2 : ∀ (q i : Nat) (_ : q < w7.heap.size) (o1 o2 : Obj), ((w7.alloc o1).alloc o2).cell? ⟨q, i, none⟩ = w7.cell? ⟨q, i, none⟩ := fun q i h o1 o2 => (World.cell?_alloc_lt _ _ _ (by simp; omega)).trans (A1 q i h o1)
 have A3 : ∀ (q i : Nat) (_ : q < w7.heap.size) (o1 o2 o3 : Obj), (((w7.alloc o1).alloc o2).alloc o3).cell? ⟨q, i, none⟩ = w7.cell? ⟨q, i, none⟩ := fun q i h o1 o2 o3 => (World.cell?_alloc_lt _ _ _ (by simp; omega)).trans (A2 q i h o1 o2)
 have A4 : ∀ (q i : Nat) (_ : q < w7.heap.size) (o1 o2 o3 o4 : Obj), ((((w7.alloc o1).alloc o2).alloc o3).alloc o4).cell? ⟨q, i, none⟩ = w7.cell? ⟨q, i, none⟩ := fun q i h o1 o2 o3 o4 => (World.cell?_alloc_lt _ _ _ (by simp; omega)).trans (A3 q i h o1 o2 o3)
 have AE1 := fun i => A1 g i L1.out; have AE2 := fun i => A2 g i L1.out; have AE3 := fun i => A3 g i L1.out; have AE4 := fun i => A4 g i L1.out
 have AN3 := fun i => A3 gn i L2.out
 have AM1 := fun i => A1 gm i L3.out
 clear A1 A2 A3 A4
 go_upto_region 9 with (fail)
 clear x0 x1 x2 x3 x4 y0 y1 y2 y3 y4 z0 z1 z2 z3 z4 AE1 AE2 AE3 AE4 AN3 AM1 L1 L2 L3
 have he0 := HE.out.below HB7.out
 generalize hv0 : w7.alloc (.cells #[.int .i64 eNone.f0, .int .i64 eNone.f1, .int .i64 eNone.f2, .int .i64 eNone.f3, .slice none eNone.f4.length 0, .int .i64 e.f0, .int .i64 e.f1, .int .i64 e.f2, .int .i64 e.f3, .slice A e.f4.length c, .int .i64 eNone.f0, .int .i64 eNone.f1, .int .i64 eNone.f2, .int .i64 eNone.f3, .slice none eNone.f4.length 0] 24) = v0
 have b0 : Below w7.heap.size w7 v0 := hv0 ▸ below_alloc (Below.refl _ _) _
 have s0 : v0.heap.size = w7.heap.size + 1 := by rw [← hv0]; simp
 have k0 : v0.heap[w7.heap.size]? = some (.cells #[.int .i64 eNone.f0, .int .i64 eNone.f1, .int .i64 eNone.f2, .int .i64 eNone.f3, .slice none eNone.f4.length 0, .int .i64 e.f0, .int .i64 e.f1, .int .i64 e.f2, .int .i64 e.f3, .slice A e.f4.length c, .int .i64 eNone.f0, .int .i64 eNone.f1, .int .i64 eNone.f2, .int .i64 eNone.f3, .slice none eNone.f4.length 0] 24 (0, 0)) := by rw [← hv0]; exact blk_new _ _
 have he1 := he0.below b0
 have e0 : E24 v0 ⟨4, 0, 0, 0, [eNone, e, eNone]⟩ (some ⟨w7.heap.size, 0, none⟩) 3 := E24.mk3 4 0 0 0 (x := eNone) (y := e) (z := eNone) (A := none) (c := 0) (C := none) (f := 0) E24.nil he1 E24.nil k0
 generalize hv1 : v0.alloc (.cells #[.int .i64 eEmpty.f0, .int .i64 eEmpty.f1, .int .i64 eEmpty.f2, .int .i64 eEmpty.f3, .slice none eEmpty.f4.length 0, .int .i64 e.f0, .int .i64 e.f1, .int .i64 e.f2, .int .i64 e.f3, .slice A e.f4.length c, .int .i64 eEmpty.f0, .int .i64 eEmpty.f1, .int .i64 eEmpty.f2, .int .i64 eEmpty.f3, .slice none eEmpty.f4.length 0] 24) = v1
 have b1 : Below v0.heap.size v0 v1 := hv1 ▸ below_alloc (Below.refl _ _) _
 have s1 : v1.heap.size = w7.heap.size + 1 + 1 := by rw [← hv1]; simp [s0]
 have k1 : v1.heap[w7.heap.size + 1]? = some (.cells #[.int .i64 eEmpty.f0, .int .i64 eEmpty.f1, .int .i64 eEmpty.f2, .int .i64 eEmpty.f3, .slice none eEmpty.f4.length 0, .int .i64 e.f0, .int .i64 e.f1, .int .i64 e.f2, .int .i64 e.f3, .slice A e.f4.length c, .int .i64 eEmpty.f0, .int .i64 eEmpty.f1, .int .i64 eEmpty.f2, .int .i64 eEmpty.f3, .slice none eEmpty.f4.length 0] 24 (0, 0)) := by rw [← hv1]; rw [← s0]; exact blk_new _ _
 have he2 := he1.below b1
 have e1 : E24 v1 ⟨3, 0, 0, 0, [eEmpty, e, eEmpty]⟩ (some ⟨w7.heap.size + 1, 0, none⟩) 3 := E24.mk3 3 0 0 0 (x := eEmpty) (y := e) (z := eEmpty) (A := none) (c := 0) (C := none) (f := 0) E24.nil he2 E24.nil k1
 replace e0 := e0.below b1
 generalize hv2 : v1.alloc (.cells #[.int .i64 e.f0, .int .i64 e.f1, .int .i64 e.f2, .int .i64 e.f3, .slice A e.f4.length c] 24) = v2
 have b2 : Below v1.heap.size v1 v2 := hv2 ▸ below_alloc (Below.refl _ _) _
 have s2 : v2.heap.size = w7.heap.size + 1 + 1 + 1 := by rw [← hv2]; simp [s1]
 have k2 : v2.heap[w7.heap.size + 1 + 1]? = some (.cells #[.int .i64 e.f0, .int .i64 e.f1, .int .i64 e.f2, .int .i64 e.f3, .slice A e.f4.length c] 24 (0, 0)) := by rw [← hv2]; rw [← s1]; exact blk_new _ _
 have he3 := he2.below b2
 have e2 : E24 v2 ⟨5, 0, 1, 1, [e]⟩ (some ⟨w7.heap.size + 1 + 1, 0, none⟩) 1 := E24.mk1 5 0 1 1 (x := e) he3 k2
 replace e0 := e0.below b2
 replace e1 := e1.below b2
 generalize hv3 : v2.alloc (.cells #[.int .i64 e.f0, .int .i64 e.f1, .int .i64 e.f2, .int .i64 e.f3, .slice A e.f4.length c, .int .i64 eNone.f0, .int .i64 eNone.f1, .int .i64 eNone.f2, .int .i64 eNone.f3, .slice none eNone.f4.length 0] 24) = v3
 have b3 : Below v2.heap.size v2 v3 := hv3 ▸ below_alloc (Below.refl _ _) _
 have s3 : v3.heap.size = w7.heap.size + 1 + 1 + 1 + 1 := by rw [← hv3]; simp [s2]
 have k3 : v3.heap[w7.heap.size + 1 + 1 + 1]? = some (.cells #[.int .i64 e.f0, .int .i64 e.f1, .int .i64 e.f2, .int .i64 e.f3, .slice A e.f4.length c, .int .i64 eNone.f0, .int .i64 eNone.f1, .int .i64 eNone.f2, .int .i64 eNone.f3, .slice none eNone.f4.length 0] 24 (0, 0)) := by rw [← hv3]; rw [← s2]; exact blk_new _ _
 have he4 := he3.below b3
 have e3 : E24 v3 ⟨3, 0, 0, 0, [e, eNone]⟩ (some ⟨w7.heap.size + 1 + 1 + 1, 0, none⟩) 2 := E24.mk2 3 0 0 0 (x := e) (y := eNone) (B := none) (d := 0) he4 E24.nil k3
 replace e0 := e0.below b3
 replace e1 := e1.below b3
 replace e2 := e2.below b3
 generalize hv4 : v3.alloc (.cells #[.int .i64 e.f0, .int .i64 e.f1, .int .i64 e.f2, .int .i64 e.f3, .slice A e.f4.length c] 24) = v4
 have b4 : Below v3.heap.size v3 v4 := hv4 ▸ below_alloc (Below.refl _ _) _
 have s4 : v4.heap.size = w7.heap.size + 1 + 1 + 1 + 1 + 1 := by rw [← hv4]; simp [s3]
 have k4 : v4.heap[w7.heap.size + 1 + 1 + 1 + 1]? = some (.cells #[.int .i64 e.f0, .int .i64 e.f1, .int .i64 e.f2, .int .i64 e.f3, .slice A e.f4.length c] 24 (0, 0)) := by rw [← hv4]; rw [← s3]; exact blk_new _ _
 have he5 := he4.below b4
 have e4 : E24 v4 ⟨5, 0, 0, 0, [e]⟩ (some ⟨w7.heap.size + 1 + 1 + 1 + 1, 0, none⟩) 1 := E24.mk1 5 0 0 0 (x := e) he5 k4
 replace e0 := e0.below b4
 replace e1 := e1.below b4
 replace e2 := e2.below b4
 replace e3 := e3.below b4
 generalize hv5 : v4.alloc (.cells #[.int .i64 4, .int .i64 0, .int .i64 0, .int .i64 0, .slice (some ⟨w7.heap.size, 0, none⟩) 3 3, .int .i64 3, .int .i64 0, .int .i64 0, .int .i64 0, .slice (some ⟨w7.heap.size + 1, 0, none⟩) 3 3, .int .i64 5, .int .i64 0, .int .i64 1, .int .i64 1, .slice (some ⟨w7.heap.size + 1 + 1, 0, none⟩) 1 1, .int .i64 3, .int .i64 0, .int .i64 0, .int .i64 0, .slice (some ⟨w7.heap.size + 1 + 1 + 1, 0, none⟩) 2 2, .int .i64 4, .int .i64 0, .int .i64 0, .int .i64 0, .slice none 0 0, .int .i64 5, .int .i64 0, .int .i64 0, .int .i64 0, .slice (some ⟨w7.heap.size + 1 + 1 + 1 + 1, 0, none⟩) 1 1] 24) = v5
 have b5 : Below v4.heap.size v4 v5 := hv5 ▸ below_alloc (Below.refl _ _) _
 have s5 : v5.heap.size = w7.heap.size + 1 + 1 + 1 + 1 + 1 + 1 := by rw [← hv5]; simp [s4]
 have k5 : v5.heap[w7.heap.size + 1 + 1 + 1 + 1 + 1]? = some (.cells #[.int .i64 4, .int .i64 0, .int .i64 0, .int .i64 0, .slice (some ⟨w7.heap.size, 0, none⟩) 3 3, .int .i64 3, .int .i64 0, .int .i64 0, .int .i64 0, .slice (some ⟨w7.heap.size + 1, 0, none⟩) 3 3, .int .i64 5, .int .i64 0, .int .i64 1, .int .i64 1, .slice (some ⟨w7.heap.size + 1 + 1, 0, none⟩) 1 1, .int .i64 3, .int .i64 0, .int .i64 0, .int .i64 0, .slice (some ⟨w7.heap.size + 1 + 1 + 1, 0, none⟩) 2 2, .int .i64 4, .int .i64 0, .int .i64 0, .int .i64 0, .slice none 0 0, .int .i64 5, .int .i64 0, .int .i64 0, .int .i64 0, .slice (some ⟨w7.heap.size + 1 + 1 + 1 + 1, 0, none⟩) 1 1] 24 (0, 0)) := by rw [← hv5]; rw [← s4]; exact blk_new _ _
 replace e0 := e0.below b5
 replace e1 := e1.below b5
 replace e2 := e2.below b5
 replace e3 := e3.below b5
 replace e4 := e4.below b5
 have HC := Lib.hid (show Kd.C Pr.k24 v5 (some ⟨w7.heap.size + 1 + 1 + 1 + 1 + 1, 0, none⟩) 6 (unitL e) from C_reps (xs := unitL e) k5 (Reps.c5 e0.K (Reps.c5 e1.K (Reps.c5 e2.K (Reps.c5 e3.K (Reps.c5 (E24.nil (a := 4) (b := 0) (c := 0) (d := 0)).K (Reps.c5 e4.K (Reps.none _ _))))))) (by simp [unitL]))
 have HB13 := Lib.hid (below_step (below_step (below_step (below_step (below_step (below_step HB7.out b0) b1) b2) b3) b4) b5)
 clear hv0 hv1 hv2 hv3 hv4 hv5 b0 b1 b2 b3 b4 b5 s0 s1 s2 s3 s4 s5 k0 k1 k2 k3 k4 k5 e0 e1 e2 e3 e4 he0 he1 he2 he3 he4 he5 HB7 KE7 KN7 KM7
 clear v0 v1 v2 v3 v4
 generalize (some ⟨w7.heap.size + 1 + 1 + 1 + 1 + 1, 0, none⟩ : Option Addr) = Al at HC ⊢
 go_upto_region 10 with (fail)
 go_loopg [9] 7 (fun kq v9 w' => ∃ (i : Nat), v9 = .int .i64 i ∧ Hid (i ≤ 6) ∧ Hid (kq = 7 - i) ∧ Hid (Below v5.heap.size v5 w'))
 case atStart => exact ⟨0, rfl, Lib.hid (Nat.zero_le _), Lib.hid rfl, Lib.hid (Below.refl _ _)⟩
 case round =>
  obtain ⟨i, rfl, HI, HQ, HBi⟩ := hrel
  by_cases hlt : i < 6
  rotate_left
  ·have hi : i = 6 := by have := HI.out; omega
   subst hi
   go_wp2_with (fail)
   go_ret
   exact ⟨rfl, below_step HB13.out HBi.out⟩
  have hlt2 : decide ((i : Int) < 6) = true := decide_eq_true (by omega)
  have HLT := Lib.hid hlt
  obtain ⟨x, hx⟩ : ∃ x, (unitL e)[i]? = some x := ⟨_, List.getElem?_eq_getElem hlt⟩
  have HX := Lib.hid hx
  obtain ⟨ad, A4, c4, rfl, z0, z1, z2, z3, z4, zl, z5⟩ := Pr.at_T24 (Kd.C_below HC.out HBi.out) (i : Int) (by omega) (by omega)
  rw [rd24_at hx] at z0 z1 z2 z3 z4 zl z5
  rw [Int.toNat_natCast] at z0 z1 z2 z3 z4
  have HXE : Hid (E24 wr x A4 c4) := Lib.hid ⟨z5, zl⟩
  have hp0 : (0 ≤ (i : Int)) = True := eq_true (by omega)
  have hp1 : ((i : Int) < 6) = True := eq_true (by omega)
  have hwi : wrap64 ((i : Int) + 1) = ((i + 1 : Nat) : Int) := by unfold wrap64; omega
  clear z5 zl hx hlt
  go_wp2_with (fail)
  refine (check_c HXE.out).mono ?_
  rintro en q1 ⟨⟨r, rfl, hr⟩, hb⟩
  have HBQ := Lib.hid (below_step HBi.out hb); have HXQ := Lib.hid (HXE.out.below hb)
  replace z0 := cell_below z0 hb; replace z1 := cell_below z1 hb; replace z2 := cell_below z2 hb; replace z3 := cell_below z3 hb; replace z4 := cell_below z4 hb
  clear hb HXE HBi
  by_cases hr0 : r = 0
  rotate_left
  ·have hrb : (r != 0) = true := bne_iff_ne.mpr hr0
   clear hr0 hr
   go_wp2_with (fail)
   go_ret
   exact ⟨rfl, below_step HB13.out HBQ.out⟩
  have HRX := Lib.hid (hr hr0)
  subst hr0
  clear hr
  have HCX := Lib.hid (Nat.le_trans (u_cnt e x (List.mem_of_getElem? HX.out)) HC60.out)
  rcases (show i < 3 ∨ i = 3 ∨ i = 4 ∨ i = 5 by have := HLT.out; omega) with hi | hi | hi | hi
  ·have HI_ := Lib.hid hi
   have b3 : ((i : Int) == 3) = false := by rw [beq_eq_false_iff_ne]; omega
   have b4 : ((i : Int) == 4) = false := by rw [beq_eq_false_iff_ne]; omega
   have b5 : ((i : Int) == 5) = false := by rw [beq_eq_false_iff_ne]; omega
   have hWL : LangE x ws ↔ is = true := by
    have hx := HX.out
    rcases (show i = 0 ∨ i = 1 ∨ i = 2 by omega) with hi | hi | hi
    ·subst hi
     obtain rfl : (⟨4, 0, 0, 0, [eNone, e, eNone]⟩ : Pr.S24) = x := Option.some.inj hx
     rw [u_alt]; exact HIS.out.symm
    ·subst hi
     obtain rfl : (⟨3, 0, 0, 0, [eEmpty, e, eEmpty]⟩ : Pr.S24) = x := Option.some.inj hx
     rw [u_seq]; exact HIS.out.symm
    ·subst hi
     obtain rfl : (⟨5, 0, 1, 1, [e]⟩ : Pr.S24) = x := Option.some.inj hx
     rw [u_rep1]; exact HIS.out.symm
   have hne : (is != is) = false := by simp
   have HWL_ := Lib.hid hWL
   clear hWL hi
   go_wp2_with (fail)
   refine (build_c HXQ.out (HT.out.below (below_step HB13.out HBQ.out)) HRX.out 512 (by have := HCX.out; omega)).mono ?_
   rintro en q2 ⟨⟨a, A0, c0, A2, c2, A3, c3, A5, c5, rfl, hra, hoa⟩, hb⟩
   replace z0 := cell_below z0 hb; replace z1 := cell_below z1 hb; replace z2 := cell_below z2 hb; replace z3 := cell_below z3 hb; replace z4 := cell_below z4 hb
   have HO := Lib.hid hoa
   go_upto_region 20 with (fail)
   generalize hq3 : q2.alloc (.cells #[.slice A0 a.syms.length c0, .bool a.null, .slice A2 a.first.length c2, .slice A3 a.last.length c3, .slice A5 a.follow.length c5] 33) = q3
   have bq : Below q2.heap.size q2 q3 := hq3 ▸ below_alloc (Below.refl _ _) _
   have KA := Lib.hid (show q3.heap[q2.heap.size]? = some (AB a A0 c0 A2 c2 A3 c3 A5 c5) by rw [← hq3]; exact blk_new _ _)
   have HR3 := Lib.hid (hra.below bq); have HX3 := Lib.hid ((HXQ.out.below hb).below bq); have HB3 := Lib.hid (below_step (below_step HBQ.out hb) bq)
   replace z0 := cell_below z0 bq; replace z1 := cell_below z1 bq; replace z2 := cell_below z2 bq; replace z3 := cell_below z3 bq; replace z4 := cell_below z4 bq
   clear hq3 hra hoa hb bq HXQ HBQ
   generalize q2.heap.size = ga at KA ⊢
   go_wp2_with (fail)
   refine (word_c HX3.out (HW.out.below (below_step HB13.out HB3.out)) (by have := HL8.out; omega) HRX.out).mono ?_
   rintro en q4 ⟨hbb, hb⟩
   obtain rfl : en = .returned (.bool is) := by
    obtain ⟨b, rfl, h⟩ := hbb
    rw [Bool.eq_iff_iff.2 (h.trans HWL_.out)]
   have KA4 := Lib.hid (blk_below KA.out hb); have HR4 := Lib.hid (HR3.out.below hb); have HB4 := Lib.hid (below_step HB3.out hb)
   clear hb hbb KA HR3 HB3 HX3 z0 z1 z2 z3 z4
   obtain ⟨y0, y1, y2, y3, y4⟩ := cls5 KA4.out
   go_wp2_with (fail)
   refine (aword_c HR4.out HO.out (HW.out.below (below_step HB13.out HB4.out)) (by have := HL8.out; omega)).mono ?_
   rintro en q5 ⟨hbb, hb⟩
   obtain rfl : en = .returned (.bool is) := by
    obtain ⟨b, rfl, h⟩ := hbb
    rw [Bool.eq_iff_iff.2 (h.trans HWL_.out)]
   have KA5 := Lib.hid (blk_below KA4.out hb); have HR5 := Lib.hid (HR4.out.below hb); have HB5 := Lib.hid (below_step HB4.out hb)
   clear hb hbb KA4 HR4 HB4 y0 y1 y2 y3 y4
   have HB6 := HB5
   clear HB5
   go_wp2_with (fail)
   go_roundg (7 - (i + 1))
   case measure => have h1 := HLT.out; have h2 := HQ.out; omega
   case rel => exact ⟨i + 1, by rw [hwi], Lib.hid (by have := HLT.out; omega), Lib.hid rfl, HB6⟩
  ·have HI_ := Lib.hid hi
   have b3 : ((i : Int) == 3) = true := by rw [beq_iff_eq]; omega
   have b4 : ((i : Int) == 4) = false := by rw [beq_eq_false_iff_ne]; omega
   have b5 : ((i : Int) == 5) = false := by rw [beq_eq_false_iff_ne]; omega
   have hWL : LangE x ws ↔ false = true := by
    have hx := HX.out
    subst hi
    obtain rfl : (⟨3, 0, 0, 0, [e, eNone]⟩ : Pr.S24) = x := Option.some.inj hx
    exact ⟨fun h => (u_dead e ws h).elim, fun h => by cases h⟩
   have hne : (false != false) = false := by simp
   have HWL_ := Lib.hid hWL
   clear hWL hi
   go_wp2_with (fail)
   refine (build_c HXQ.out (HT.out.below (below_step HB13.out HBQ.out)) HRX.out 512 (by have := HCX.out; omega)).mono ?_
   rintro en q2 ⟨⟨a, A0, c0, A2, c2, A3, c3, A5, c5, rfl, hra, hoa⟩, hb⟩
   replace z0 := cell_below z0 hb; replace z1 := cell_below z1 hb; replace z2 := cell_below z2 hb; replace z3 := cell_below z3 hb; replace z4 := cell_below z4 hb
   have HO := Lib.hid hoa
   go_upto_region 20 with (fail)
   generalize hq3 : q2.alloc (.cells #[.slice A0 a.syms.length c0, .bool a.null, .slice A2 a.first.length c2, .slice A3 a.last.length c3, .slice A5 a.follow.length c5] 33) = q3
   have bq : Below q2.heap.size q2 q3 := hq3 ▸ below_alloc (Below.refl _ _) _
   have KA := Lib.hid (show q3.heap[q2.heap.size]? = some (AB a A0 c0 A2 c2 A3 c3 A5 c5) by rw [← hq3]; exact blk_new _ _)
   have HR3 := Lib.hid (hra.below bq); have HX3 := Lib.hid ((HXQ.out.below hb).below bq); have HB3 := Lib.hid (below_step (below_step HBQ.out hb) bq)
   replace z0 := cell_below z0 bq; replace z1 := cell_below z1 bq; replace z2 := cell_below z2 bq; replace z3 := cell_below z3 bq; replace z4 := cell_below z4 bq
   clear hq3 hra hoa hb bq HXQ HBQ
   generalize q2.heap.size = ga at KA ⊢
   go_wp2_with (fail)
   refine (word_c HX3.out (HW.out.below (below_step HB13.out HB3.out)) (by have := HL8.out; omega) HRX.out).mono ?_
   rintro en q4 ⟨hbb, hb⟩
   obtain rfl : en = .returned (.bool false) := by
    obtain ⟨b, rfl, h⟩ := hbb
    rw [Bool.eq_iff_iff.2 (h.trans HWL_.out)]
   have KA4 := Lib.hid (blk_below KA.out hb); have HR4 := Lib.hid (HR3.out.below hb); have HB4 := Lib.hid (below_step HB3.out hb)
   clear hb hbb KA HR3 HB3 HX3 z0 z1 z2 z3 z4
   obtain ⟨y0, y1, y2, y3, y4⟩ := cls5 KA4.out
   go_wp2_with (fail)
   refine (aword_c HR4.out HO.out (HW.out.below (below_step HB13.out HB4.out)) (by have := HL8.out; omega)).mono ?_
   rintro en q5 ⟨hbb, hb⟩
   obtain rfl : en = .returned (.bool false) := by
    obtain ⟨b, rfl, h⟩ := hbb
    rw [Bool.eq_iff_iff.2 (h.trans HWL_.out)]
   have KA5 := Lib.hid (blk_below KA4.out hb); have HR5 := Lib.hid (HR4.out.below hb); have HB5 := Lib.hid (below_step HB4.out hb)
   clear hb hbb KA4 HR4 HB4 y0 y1 y2 y3 y4
   obtain ⟨y0, y1, y2, y3, y4⟩ := cls5 KA5.out
   go_wp2_with (fail)
   refine (live_c HR5.out HO.out).mono ?_
   rintro en q6 ⟨hbb, hb⟩
   obtain rfl : en = .returned (.bool false) := by
    obtain ⟨b, rfl, h⟩ := hbb
    cases b with
    | false => rfl
    | true =>
     obtain ⟨v, hv⟩ := h.1 rfl
     have hx := HX.out
     have hi := HI_.out
     subst hi
     obtain rfl : (⟨3, 0, 0, 0, [e, eNone]⟩ : Pr.S24) = x := Option.some.inj hx
     exact (u_dead e v hv).elim
   have HB6 := Lib.hid (below_step HB5.out hb)
   clear hb hbb KA5 HR5 HB5 y0 y1 y2 y3 y4
   go_wp2_with (fail)
   go_roundg (7 - (i + 1))
   case measure => have h1 := HLT.out; have h2 := HQ.out; omega
   case rel => exact ⟨i + 1, by rw [hwi], Lib.hid (by have := HLT.out; omega), Lib.hid rfl, HB6⟩
  ·have HI_ := Lib.hid hi
   have b3 : ((i : Int) == 3) = false := by rw [beq_eq_false_iff_ne]; omega
   have b4 : ((i : Int) == 4) = true := by rw [beq_iff_eq]; omega
   have b5 : ((i : Int) == 5) = false := by rw [beq_eq_false_iff_ne]; omega
   have hWL : LangE x ws ↔ false = true := by
    have hx := HX.out
    subst hi
    obtain rfl : (⟨4, 0, 0, 0, []⟩ : Pr.S24) = x := Option.some.inj hx
    exact ⟨fun h => (u_alt0 ws h).elim, fun h => by cases h⟩
   have hne : (false != false) = false := by simp
   have HWL_ := Lib.hid hWL
   clear hWL hi
   go_wp2_with (fail)
   refine (build_c HXQ.out (HT.out.below (below_step HB13.out HBQ.out)) HRX.out 512 (by have := HCX.out; omega)).mono ?_
   rintro en q2 ⟨⟨a, A0, c0, A2, c2, A3, c3, A5, c5, rfl, hra, hoa⟩, hb⟩
   replace z0 := cell_below z0 hb; replace z1 := cell_below z1 hb; replace z2 := cell_below z2 hb; replace z3 := cell_below z3 hb; replace z4 := cell_below z4 hb
   have HO := Lib.hid hoa
   go_upto_region 20 with (fail)
   generalize hq3 : q2.alloc (.cells #[.slice A0 a.syms.length c0, .bool a.null, .slice A2 a.first.length c2, .slice A3 a.last.length c3, .slice A5 a.follow.length c5] 33) = q3
   have bq : Below q2.heap.size q2 q3 := hq3 ▸ below_alloc (Below.refl _ _) _
   have KA := Lib.hid (show q3.heap[q2.heap.size]? = some (AB a A0 c0 A2 c2 A3 c3 A5 c5) by rw [← hq3]; exact blk_new _ _)
   have HR3 := Lib.hid (hra.below bq); have HX3 := Lib.hid ((HXQ.out.below hb).below bq); have HB3 := Lib.hid (below_step (below_step HBQ.out hb) bq)
   replace z0 := cell_below z0 bq; replace z1 := cell_below z1 bq; replace z2 := cell_below z2 bq; replace z3 := cell_below z3 bq; replace z4 := cell_below z4 bq
   clear hq3 hra hoa hb bq HXQ HBQ
   generalize q2.heap.size = ga at KA ⊢
   go_wp2_with (fail)
   refine (word_c HX3.out (HW.out.below (below_step HB13.out HB3.out)) (by have := HL8.out; omega) HRX.out).mono ?_
   rintro en q4 ⟨hbb, hb⟩
   obtain rfl : en = .returned (.bool false) := by
    obtain ⟨b, rfl, h⟩ := hbb
    rw [Bool.eq_iff_iff.2 (h.trans HWL_.out)]
   have KA4 := Lib.hid (blk_below KA.out hb); have HR4 := Lib.hid (HR3.out.below hb); have HB4 := Lib.hid (below_step HB3.out hb)
   clear hb hbb KA HR3 HB3 HX3 z0 z1 z2 z3 z4
   obtain ⟨y0, y1, y2, y3, y4⟩ := cls5 KA4.out
   go_wp2_with (fail)
   refine (aword_c HR4.out HO.out (HW.out.below (below_step HB13.out HB4.out)) (by have := HL8.out; omega)).mono ?_
   rintro en q5 ⟨hbb, hb⟩
   obtain rfl : en = .returned (.bool false) := by
    obtain ⟨b, rfl, h⟩ := hbb
    rw [Bool.eq_iff_iff.2 (h.trans HWL_.out)]
   have KA5 := Lib.hid (blk_below KA4.out hb); have HR5 := Lib.hid (HR4.out.below hb); have HB5 := Lib.hid (below_step HB4.out hb)
   clear hb hbb KA4 HR4 HB4 y0 y1 y2 y3 y4
   obtain ⟨y0, y1, y2, y3, y4⟩ := cls5 KA5.out
   go_wp2_with (fail)
   refine (live_c HR5.out HO.out).mono ?_
   rintro en q6 ⟨hbb, hb⟩
   obtain rfl : en = .returned (.bool false) := by
    obtain ⟨b, rfl, h⟩ := hbb
    cases b with
    | false => rfl
    | true =>
     obtain ⟨v, hv⟩ := h.1 rfl
     have hx := HX.out
     have hi := HI_.out
     subst hi
     obtain rfl : (⟨4, 0, 0, 0, []⟩ : Pr.S24) = x := Option.some.inj hx
     exact (u_alt0 v hv).elim
   have HB6 := Lib.hid (below_step HB5.out hb)
   clear hb hbb KA5 HR5 HB5 y0 y1 y2 y3 y4
   go_wp2_with (fail)
   go_roundg (7 - (i + 1))
   case measure => have h1 := HLT.out; have h2 := HQ.out; omega
   case rel => exact ⟨i + 1, by rw [hwi], Lib.hid (by have := HLT.out; omega), Lib.hid rfl, HB6⟩
  ·have HI_ := Lib.hid hi
   have b3 : ((i : Int) == 3) = false := by rw [beq_eq_false_iff_ne]; omega
   have b4 : ((i : Int) == 4) = false := by rw [beq_eq_false_iff_ne]; omega
   have b5 : ((i : Int) == 5) = true := by rw [beq_iff_eq]; omega
   have hWL : LangE x ws ↔ ((ws.length : Int) == 0) = true := by
    have hx := HX.out
    subst hi
    obtain rfl : (⟨5, 0, 0, 0, [e]⟩ : Pr.S24) = x := Option.some.inj hx
    rw [u_rep0, beq_iff_eq]
    exact ⟨fun h => by rw [h]; rfl, fun h => List.length_eq_zero_iff.1 (by omega)⟩
   have hne : (((ws.length : Int) == 0) != ((ws.length : Int) == 0)) = false := by simp
   have HWL_ := Lib.hid hWL
   clear hWL hi
   go_wp2_with (fail)
   refine (build_c HXQ.out (HT.out.below (below_step HB13.out HBQ.out)) HRX.out 512 (by have := HCX.out; omega)).mono ?_
   rintro en q2 ⟨⟨a, A0, c0, A2, c2, A3, c3, A5, c5, rfl, hra, hoa⟩, hb⟩
   replace z0 := cell_below z0 hb; replace z1 := cell_below z1 hb; replace z2 := cell_below z2 hb; replace z3 := cell_below z3 hb; replace z4 := cell_below z4 hb
   have HO := Lib.hid hoa
   go_upto_region 20 with (fail)
   generalize hq3 : q2.alloc (.cells #[.slice A0 a.syms.length c0, .bool a.null, .slice A2 a.first.length c2, .slice A3 a.last.length c3, .slice A5 a.follow.length c5] 33) = q3
   have bq : Below q2.heap.size q2 q3 := hq3 ▸ below_alloc (Below.refl _ _) _
   have KA := Lib.hid (show q3.heap[q2.heap.size]? = some (AB a A0 c0 A2 c2 A3 c3 A5 c5) by rw [← hq3]; exact blk_new _ _)
   have HR3 := Lib.hid (hra.below bq); have HX3 := Lib.hid ((HXQ.out.below hb).below bq); have HB3 := Lib.hid (below_step (below_step HBQ.out hb) bq)
   replace z0 := cell_below z0 bq; replace z1 := cell_below z1 bq; replace z2 := cell_below z2 bq; replace z3 := cell_below z3 bq; replace z4 := cell_below z4 bq
   clear hq3 hra hoa hb bq HXQ HBQ
   generalize q2.heap.size = ga at KA ⊢
   go_wp2_with (fail)
   refine (word_c HX3.out (HW.out.below (below_step HB13.out HB3.out)) (by have := HL8.out; omega) HRX.out).mono ?_
   rintro en q4 ⟨hbb, hb⟩
   obtain rfl : en = .returned (.bool ((ws.length : Int) == 0)) := by
    obtain ⟨b, rfl, h⟩ := hbb
    rw [Bool.eq_iff_iff.2 (h.trans HWL_.out)]
   have KA4 := Lib.hid (blk_below KA.out hb); have HR4 := Lib.hid (HR3.out.below hb); have HB4 := Lib.hid (below_step HB3.out hb)
   clear hb hbb KA HR3 HB3 HX3 z0 z1 z2 z3 z4
   obtain ⟨y0, y1, y2, y3, y4⟩ := cls5 KA4.out
   go_wp2_with (fail)
   refine (aword_c HR4.out HO.out (HW.out.below (below_step HB13.out HB4.out)) (by have := HL8.out; omega)).mono ?_
   rintro en q5 ⟨hbb, hb⟩
   obtain rfl : en = .returned (.bool ((ws.length : Int) == 0)) := by
    obtain ⟨b, rfl, h⟩ := hbb
    rw [Bool.eq_iff_iff.2 (h.trans HWL_.out)]
   have KA5 := Lib.hid (blk_below KA4.out hb); have HR5 := Lib.hid (HR4.out.below hb); have HB5 := Lib.hid (below_step HB4.out hb)
   clear hb hbb KA4 HR4 HB4 y0 y1 y2 y3 y4
   have HB6 := HB5
   clear HB5
   go_wp2_with (fail)
   go_roundg (7 - (i + 1))
   case measure => have h1 := HLT.out; have h2 := HQ.out; omega
   case rel => exact ⟨i + 1, by rw [hwi], Lib.hid (by have := HLT.out; omega), Lib.hid rfl, HB6⟩
end Go.Proofs.YthocjdlcopmhiaaDoor.G
