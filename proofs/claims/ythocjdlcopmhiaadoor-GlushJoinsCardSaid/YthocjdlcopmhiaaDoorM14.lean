import Derived.Test.YthocjdlcopmhiaaDoorProg
import Derived.Below
import Derived.Deep.Draws
import Derived.Deep.AppendLies
import Derived.Maps.AppendAt
import Derived.OwnWalk
import Derived.Laws.BytesArg
import Derived.Laws.MakeOwn
import Derived.Laws.OwnMore
import Derived.Deep.OwnRows
import Derived.Tactics
import Derived.Lib.ConvBytes
import Derived.Laws.Slices
import Derived.WalkKit
import Derived.KernelRfl
import Derived.RowKit3
import Derived.Deep.LoopGhost
import Derived.Deep.QuietTactic
import Derived.BigQuiet
import Derived.WideLaws
import Derived.Deep.DeepCutAuto
import Derived.Deep.CutBlock
import Derived.Deep.RegionHeld3
import Derived.Laws.Rows
import Derived.Lib.AppendStr
import Derived.ArgAppend
import Derived.Laws.IdiomCopy
import Derived.OrdersHeld
import Derived.Laws.BitsLemmas
import Derived.RowKit
import Derived.Test.YthocjdlcopmhiaaDoorWWords
import Derived.Test.YthocjdlcopmhiaaDoorWLast
import Derived.Test.YthocjdlcopmhiaaDoorWTab
import Derived.Test.YthocjdlcopmhiaaDoorWQPut
import Derived.Test.YthocjdlcopmhiaaDoorWApart
import Derived.Test.YthocjdlcopmhiaaDoorWArr
import Derived.Test.YthocjdlcopmhiaaDoorWZeros
import Derived.Test.YthocjdlcopmhiaaDoorWFoot
import Derived.Test.YthocjdlcopmhiaaDoorWKept
import Derived.Test.YthocjdlcopmhiaaDoorWShare
import Derived.Test.YthocjdlcopmhiaaDoorWN
import Derived.Test.YthocjdlcopmhiaaDoorWRepsOne
import Derived.Test.YthocjdlcopmhiaaDoorWGuard
import Derived.Test.YthocjdlcopmhiaaDoorWNEv
import Derived.Test.YthocjdlcopmhiaaDoorWMore
import Derived.Test.YthocjdlcopmhiaaDoorWEqStruct
import Derived.Test.YthocjdlcopmhiaaDoorWFour
import Derived.Test.YthocjdlcopmhiaaDoorWFootNe
import Derived.Test.YthocjdlcopmhiaaDoorWAt
import Derived.Test.YthocjdlcopmhiaaDoorWInv
import Derived.Test.YthocjdlcopmhiaaDoorWInvWords
import Derived.Test.YthocjdlcopmhiaaDoorM13
namespace Go.Proofs.YthocjdlcopmhiaaDoor.G
open Go.RowKit Go.Proofs.YthocjdlcopmhiaaDoorW.PrintWords Go.Proofs.YthocjdlcopmhiaaDoorW.PrintLast Go.Proofs.YthocjdlcopmhiaaDoorW.PrintMore
attribute [local go_sem] max2_int min2_int max_two min_two max_three min_three max_four min_four
set_option linter.unusedVariables false
set_option linter.unusedSimpArgs false
open GP (Cat Eps Pow)
def eNone : Pr.S24 := ⟨6, 0, 0, 0, []⟩
def eEmpty : Pr.S24 := ⟨1, 0, 0, 0, []⟩
def unitL (e : Pr.S24) : List Pr.S24 := [⟨4, 0, 0, 0, [eNone, e, eNone]⟩, ⟨3, 0, 0, 0, [eEmpty, e, eEmpty]⟩, ⟨5, 0, 1, 1, [e]⟩, ⟨3, 0, 0, 0, [e, eNone]⟩, ⟨4, 0, 0, 0, []⟩, ⟨5, 0, 0, 0, [e]⟩]
theorem none_no (w : List Int) : ¬ LangE eNone w := by simp [eNone, LangE]
theorem empty_is (w : List Int) : LangE eEmpty w ↔ w = [] := by simp [eEmpty, LangE]
theorem lang3 (a b c d : Int) (l : List Pr.S24) (h : a = 3) (w : List Int) : LangE ⟨a, b, c, d, l⟩ w ↔ LangS l w := by subst h; simp [LangE]
theorem lang4 (a b c d : Int) (l : List Pr.S24) (h : a = 4) (w : List Int) : LangE ⟨a, b, c, d, l⟩ w ↔ LangA l w := by subst h; simp [LangE]
theorem lang5 (a b c d : Int) (y : Pr.S24) (h : a = 5) (w : List Int) : LangE ⟨a, b, c, d, [y]⟩ w ↔ TimesI (LangE y) c d w := by subst h; simp [LangE, LangR]
theorem u_alt (e : Pr.S24) (w : List Int) : LangE ⟨4, 0, 0, 0, [eNone, e, eNone]⟩ w ↔ LangE e w := by
 rw [lang4 _ _ _ _ _ rfl]
 simp only [LangA]
 exact ⟨fun h => by rcases h with h | h | h | h; exact (none_no w h).elim; exact h; exact (none_no w h).elim; exact h.elim, fun h => .inr (.inl h)⟩
theorem u_seq (e : Pr.S24) (w : List Int) : LangE ⟨3, 0, 0, 0, [eEmpty, e, eEmpty]⟩ w ↔ LangE e w := by
 rw [lang3 _ _ _ _ _ rfl]
 simp only [LangS]
 constructor
 ·rintro ⟨u, v, rfl, h1, u2, v2, rfl, h2, u3, v3, rfl, h3, h4⟩
  rw [(empty_is u).1 h1, (empty_is u3).1 h3, h4]
  simpa using h2
 ·intro h
  exact ⟨[], w, rfl, (empty_is _).2 rfl, w, [], by simp, h, [], [], rfl, (empty_is _).2 rfl, rfl⟩
theorem u_rep1 (e : Pr.S24) (w : List Int) : LangE ⟨5, 0, 1, 1, [e]⟩ w ↔ LangE e w := by
 rw [lang5 _ _ _ _ _ rfl]
 constructor
 ·rintro ⟨j, h1, h2, h3⟩
  obtain rfl : j = 1 := by rcases h2 with h2 | h2; cases h2; omega
  obtain ⟨u, v, rfl, h4, h5⟩ := h3
  have h4' : u = [] := h4
  subst h4'
  exact h5
 ·intro h
  exact ⟨1, by decide, .inr (by decide), [], w, rfl, rfl, h⟩
theorem u_dead (e : Pr.S24) (w : List Int) : ¬ LangE ⟨3, 0, 0, 0, [e, eNone]⟩ w := by
 rw [lang3 _ _ _ _ _ rfl]
 simp only [LangS]
 rintro ⟨u, v, rfl, h1, u2, v2, rfl, h2, _⟩
 exact none_no _ h2
theorem u_alt0 (w : List Int) : ¬ LangE ⟨4, 0, 0, 0, []⟩ w := by
 rw [lang4 _ _ _ _ _ rfl]
 simp [LangA]
theorem u_rep0 (e : Pr.S24) (w : List Int) : LangE ⟨5, 0, 0, 0, [e]⟩ w ↔ w = [] := by
 rw [lang5 _ _ _ _ _ rfl]
 constructor
 ·rintro ⟨j, h1, h2, h3⟩
  obtain rfl : j = 0 := by rcases h2 with h2 | h2; cases h2; omega
  exact h3
 ·rintro rfl
  exact ⟨0, by decide, .inr (by decide), rfl⟩
theorem u_cnt (e : Pr.S24) : ∀ x ∈ unitL e, cntE x ≤ cntE e := by
 intro x hx
 have h1 : cntE eNone = 0 := by simp [eNone, cntE]
 have h2 : cntE eEmpty = 0 := by simp [eEmpty, cntE]
 simp only [unitL, List.mem_cons, List.not_mem_nil, or_false] at hx
 have t1 : tms 1 1 = 1 := by decide
 have t0 : tms 0 0 = 0 := by decide
 rcases hx with rfl | rfl | rfl | rfl | rfl | rfl
 all_goals rw [cntE_eq]; simp [cntL, h1, h2, t1, t0]
abbrev EB (e : Pr.S24) (A : Option Addr) (c : Nat) : Obj := .cells #[.int .i64 e.f0, .int .i64 e.f1, .int .i64 e.f2, .int .i64 e.f3, .slice A e.f4.length c] 24
abbrev EBk (e : Pr.S24) (A : Option Addr) (c : Nat) : Obj := .cells #[.int .i64 e.f0, .int .i64 e.f1, .int .i64 e.f2, .int .i64 e.f3, .slice A e.f4.length c] 24 (0, 0)
end Go.Proofs.YthocjdlcopmhiaaDoor.G
namespace Go.Proofs.YthocjdlcopmhiaaDoor.G
open Go.RowKit Go.Proofs.YthocjdlcopmhiaaDoorW.PrintWords Go.Proofs.YthocjdlcopmhiaaDoorW.PrintLast Go.Proofs.YthocjdlcopmhiaaDoorW.PrintMore
attribute [local go_sem] max2_int min2_int max_two min_two max_three min_three max_four min_four
set_option linter.unusedVariables false
set_option linter.unusedSimpArgs false
open GP (Cat Eps Pow)
theorem wrong_same (k : Nat) (l : List Pr.S24) : Pr.glush_wrong.f k 3 0 0 0 l = Pr.glush_wrong.f k 4 0 0 0 l := by
 cases k <;> simp [Pr.glush_wrong.f, Pr.glush_wrong.j0]
theorem or_right {l : List Pr.S24} (h : Right ⟨3, 0, 0, 0, l⟩) : Right ⟨4, 0, 0, 0, l⟩ := by
 obtain ⟨k, h⟩ := h
 refine ⟨k, ?_⟩
 rw [← h]
 unfold glush_Check.f
 cases k with
 | zero => rfl
 | succ k =>
  show (walkC (k + 1) ⟨4, 0, 0, 0, l⟩ 1 true ⟨0, false, false⟩).bind _ = (walkC (k + 1) ⟨3, 0, 0, 0, l⟩ 1 true ⟨0, false, false⟩).bind _
  congr 1
  unfold walkC
  simp only [wrong_same]
  rfl
def rowN (v : List Int) : Nat → List Int
 | 0 => []
 | n + 1 => rowN v n ++ v
theorem rowN_len (v : List Int) : ∀ n, (rowN v n).length = n * v.length
 | 0 => by simp [rowN]
 | n + 1 => by simp [rowN, rowN_len v n, Nat.add_mul]
theorem rowN_pow {L : List Int → Prop} {v : List Int} (h : L v) : ∀ n, Pow L n (rowN v n)
 | 0 => rfl
 | n + 1 => ⟨rowN v n, v, rfl, rowN_pow h n, h⟩
theorem j_seq {a b : Pr.S24} {v w : List Int} (h1 : LangE a v) (h2 : LangE b w) : LangE ⟨3, 0, 0, 0, [a, b]⟩ (v ++ w) := by
 rw [lang3 _ _ _ _ _ rfl]
 exact ⟨v, w, rfl, h1, w, [], by simp, h2, rfl⟩
theorem j_alt {a b : Pr.S24} {v : List Int} : LangE ⟨4, 0, 0, 0, [a, b]⟩ v ↔ LangE a v ∨ LangE b v := by
 rw [lang4 _ _ _ _ _ rfl]
 simp only [LangA, or_false]
theorem j_rep {a : Pr.S24} {v : List Int} (h : LangE a v) {lo : Int} {n : Nat} (hn : lo ≤ (n : Int)) : LangE ⟨5, 0, lo, -1, [a]⟩ (rowN v n) := by
 rw [lang5 _ _ _ _ _ rfl]
 exact ⟨n, hn, .inl rfl, rowN_pow h n⟩
theorem j_cnt2 (a b : Pr.S24) (k : Int) (hk : k = 3 ∨ k = 4) : cntE ⟨k, 0, 0, 0, [a, b]⟩ = cntE a + cntE b := by
 rw [cntE_eq]
 rcases hk with rfl | rfl <;> simp [cntL]
theorem j_cnt1 (a : Pr.S24) (lo : Int) (h : lo ≤ 4) : cntE ⟨5, 0, lo, -1, [a]⟩ ≤ cntE a * 4 := by
 rw [cntE_eq]
 simp [cntL, tms]
 exact Nat.mul_le_mul_left _ (by omega)
end Go.Proofs.YthocjdlcopmhiaaDoor.G
namespace Go.Proofs.YthocjdlcopmhiaaDoor.G
open Go.RowKit Go.Proofs.YthocjdlcopmhiaaDoorW.PrintWords Go.Proofs.YthocjdlcopmhiaaDoorW.PrintLast Go.Proofs.YthocjdlcopmhiaaDoorW.PrintMore
attribute [local go_sem] max2_int min2_int max_two min_two max_three min_three max_four min_four
set_option linter.unusedVariables false
set_option linter.unusedSimpArgs false
open GP (Cat Eps Pow)
def RJ.T : Bool × List (List Nat × List Nat) := (true, [([], []), ([0], [0]), ([1], [1]), ([1], [1]), ([2, 3, 1, 1], [1, 2, 3]), ([1, 4], [1, 4]), ([5, 4], [5]), ([6], [6]), ([6], [6]), ([6], [6]), ([8, 9, 6, 6], [6, 8, 9]), ([6], [6]), ([10, 11, 10, 6], [6, 10, 11]), ([7, 12, 12, 6], [6, 7, 12]), ([13, 6], [6, 13]), ([6, 14], [6, 14]), ([15, 13], [15]), ([16], [16]), ([16], [16]), ([17, 18, 16, 16], [16, 17, 18]), ([16], [16]), ([20, 19, 16], [16, 20]), ([21], [21]), ([21], [21]), ([22, 23, 21, 21], [21, 22, 23]), ([21, 24, 16], [16, 21, 24]), ([19, 25, 16], [16, 19, 25]), ([16, 26], [16, 26])])
def RJ.B : List Nat := [0, 1, 3, 3, 15, 31, 63, 127, 127, 127, 895, 127, 3967, 8191, 16383, 32767, 65535, 131071, 131071, 524287, 131071, 2097151, 4194303, 4194303, 16777215, 33554431, 67108863, 134217727]
theorem RJ.tab : rtab .any (opsOf Tryd.f3 21) = RJ.T := by kernel_rfl
theorem RJ.bits : waitsOk RJ.T.2 RJ.B = true := by kernel_rfl
theorem alloc1 {W W' : World} {c1 : Array Value} {t1 : TypeId} (h : W.alloc (.cells c1 t1) = W') : Below W.heap.size W W' ∧ W'.heap[W.heap.size]? = some (.cells c1 t1 (0, 0)) := by
 subst h
 exact ⟨below_alloc (Below.refl _ _) _, blk_new _ _⟩
theorem alloc2 {W W' : World} {c1 c2 : Array Value} {t1 t2 : TypeId} (h : (W.alloc (.cells c1 t1)).alloc (.cells c2 t2) = W') : Below W.heap.size W W' ∧ W'.heap[W.heap.size]? = some (.cells c1 t1 (0, 0)) ∧ W'.heap[W.heap.size + 1]? = some (.cells c2 t2 (0, 0)) := by
 obtain ⟨b1, k1⟩ := alloc1 (W := W) (c1 := c1) (t1 := t1) rfl
 obtain ⟨b2, k2⟩ := alloc1 h
 refine ⟨below_step b1 b2, blk_below k1 b2, ?_⟩
 have hs : (W.alloc (.cells c1 t1)).heap.size = W.heap.size + 1 := by simp
 rw [hs] at k2
 exact k2
theorem R_empty {W : World} {base : Nat} (hb : base ≤ W.heap.size) (e : TypeId) : Kd.R KI e (W.alloc (.cells #[] e)) base (fun _ => True) (.slice (some ⟨W.heap.size, 0, none⟩) 0 0) [] := by
 have h2 := World.ownsRow_lit (base := base) (e := e) (size := KI.sz) W #[] 0 hb (by decide) (by rfl)
 exact ⟨fun _ _ => trivial, [], by simpa using h2, Reps.none _ _⟩
theorem I24.of_R {w : World} {e b n c : Nat} {ok : Nat → Prop} {A : Option Addr} {l : List Int} (h : Kd.R KI e w b ok (.slice A n c) l) : I24 w l A c := by
 have := Kd.R_reads' h
 obtain ⟨h1, h2, h3⟩ := this
 subst h1
 exact ⟨h3, h2⟩
set_option maxHeartbeats 16000000 in
set_option maxRecDepth 100000 in
theorem joins_calls (w : World) (a : Pr.S24) (Aa : Option Addr) (ca : Nat) (b : Pr.S24) (Ab : Option Addr) (cb : Nat) (v : List Int) (Av : Option Addr) (cv : Nat) (u : List Int) (Au : Option Addr) (cu : Nat) (lo n : Int) (htab : HTab w) (ha : E24 w a Aa ca) (hb : E24 w b Ab cb) (hv : I24 w v Av cv) (hu : I24 w u Au cu) (hvl : v.length < 9223372036854775808) (hul : u.length < 9223372036854775808) :
  Calls Tryd.prog 3 #[EV a Aa ca, EV b Ab cb, .slice Av v.length cv, .slice Au u.length cu, .int .i64 lo, .int .i64 n] w fun en w' => en = .returned (.bool true) ∧ Below w.heap.size w w' := by
 have hu24 := Tryd.underlying24; have hu33 := Tryd.underlying33
 have HT := Lib.hid htab; have HA := Lib.hid ha; have HB_ := Lib.hid hb; have HV := Lib.hid hv; have HU := Lib.hid hu; have HVL := Lib.hid hvl; have HUL := Lib.hid hul
 clear htab ha hb hv hu hvl hul
 go_enter Tryd.func3, Tryd.ntmps3
 go_upto_region 1 with (fail)
 generalize hw1 : (w.alloc (EB a Aa ca)).alloc (EB b Ab cb) = w1
 obtain ⟨b1, k1, k2⟩ := alloc2 hw1
 have KA1 := Lib.hid k1; have KB1 := Lib.hid k2; have HB1 := Lib.hid b1
 clear hw1 b1 k1 k2
 generalize w.heap.size + 1 = gb at KB1 ⊢
 generalize w.heap.size = ga at KA1 ⊢
 go_wp2_with (fail)
 refine (known_calls w1 (HT.out.below HB1.out)).mono ?_
 rintro en w2 ⟨rfl, hb⟩
 have HB2 := Lib.hid (below_step HB1.out hb); have KA2 := Lib.hid (blk_below KA1.out hb); have KB2 := Lib.hid (blk_below KB1.out hb)
 clear hb HB1 KA1 KB1
 obtain ⟨x0, x1, x2, x3, x4⟩ := cls5 KA2.out
 go_wp2_with (fail)
 refine (few_c (HA.out.below HB2.out)).mono ?_
 rintro en w3 ⟨⟨q, rfl⟩, hb⟩
 have HB3 := Lib.hid (below_step HB2.out hb); have KA3 := Lib.hid (blk_below KA2.out hb); have KB3 := Lib.hid (blk_below KB2.out hb)
 clear hb HB2 KA2 KB2
 clear x0 x1 x2 x3 x4
 cases q with
 | false =>
  go_wp2_with (fail)
  go_ret
  exact ⟨rfl, HB3.out⟩
 | true =>
 obtain ⟨y0, y1, y2, y3, y4⟩ := cls5 KB3.out
 go_wp2_with (fail)
 refine (few_c (HB_.out.below HB3.out)).mono ?_
 rintro en w4 ⟨⟨q, rfl⟩, hb⟩
 have HB4 := Lib.hid (below_step HB3.out hb); have KA4 := Lib.hid (blk_below KA3.out hb); have KB4 := Lib.hid (blk_below KB3.out hb)
 clear hb HB3 KA3 KB3
 clear y0 y1 y2 y3 y4
 cases q with
 | false =>
  go_wp2_with (fail)
  go_ret
  exact ⟨rfl, HB4.out⟩
 | true =>
 by_cases t1 : (5 : Int) < (v.length : Int)
 ·have t1b : decide ((5 : Int) < (v.length : Int)) = true := decide_eq_true t1
  clear t1
  go_wp2_with (fail)
  go_ret
  exact ⟨rfl, HB4.out⟩
 have t1b : decide ((5 : Int) < (v.length : Int)) = false := decide_eq_false t1
 by_cases t2 : (5 : Int) < (u.length : Int)
 ·have t2b : decide ((5 : Int) < (u.length : Int)) = true := decide_eq_true t2
  clear t2
  go_wp2_with (fail)
  go_ret
  exact ⟨rfl, HB4.out⟩
 have t2b : decide ((5 : Int) < (u.length : Int)) = false := decide_eq_false t2
 by_cases t3 : lo < 0
 ·have t3b : decide (lo < 0) = true := decide_eq_true t3
  clear t3
  go_wp2_with (fail)
  go_ret
  exact ⟨rfl, HB4.out⟩
 have t3b : decide (lo < 0) = false := decide_eq_false t3
 by_cases t4 : 4 < lo
 ·have t4b : decide (4 < lo) = true := decide_eq_true t4
  clear t4
  go_wp2_with (fail)
  go_ret
  exact ⟨rfl, HB4.out⟩
 have t4b : decide (4 < lo) = false := decide_eq_false t4
 by_cases t5 : n < 0
 ·have t5b : decide (n < 0) = true := decide_eq_true t5
  clear t5
  go_wp2_with (fail)
  go_ret
  exact ⟨rfl, HB4.out⟩
 have t5b : decide (n < 0) = false := decide_eq_false t5
 by_cases t6 : 4 < n
 ·have t6b : decide (4 < n) = true := decide_eq_true t6
  clear t6
  go_wp2_with (fail)
  go_ret
  exact ⟨rfl, HB4.out⟩
 have t6b : decide (4 < n) = false := decide_eq_false t6
 have HL1 := Lib.hid t1; have HL2 := Lib.hid t2; have HLO := Lib.hid t4
 obtain ⟨m, rfl⟩ : ∃ m : Nat, n = m := ⟨n.toNat, by omega⟩
 have HM4 := Lib.hid (show m ≤ 4 by omega)
 clear t1 t2 t3 t4 t5 t6
 obtain ⟨x0, x1, x2, x3, x4⟩ := cls5 KA4.out
 go_wp2_with (fail)
 refine (check_c (HA.out.below HB4.out)).mono ?_
 rintro en w5 ⟨⟨r, rfl, hr⟩, hb⟩
 have HB5 := Lib.hid (below_step HB4.out hb); have KA5 := Lib.hid (blk_below KA4.out hb); have KB5 := Lib.hid (blk_below KB4.out hb)
 clear hb HB4 KA4 KB4
 clear x0 x1 x2 x3 x4
 by_cases hr0 : r = 0
 rotate_left
 ·have hrb : (r != 0) = true := bne_iff_ne.mpr hr0
  clear hr0 hr
  go_wp2_with (fail)
  go_ret
  exact ⟨rfl, HB5.out⟩
 have HRA := Lib.hid (hr hr0)
 subst hr0
 clear hr
 obtain ⟨y0, y1, y2, y3, y4⟩ := cls5 KB5.out
 go_wp2_with (fail)
 refine (check_c (HB_.out.below HB5.out)).mono ?_
 rintro en w6 ⟨⟨r, rfl, hr⟩, hb⟩
 have HB6 := Lib.hid (below_step HB5.out hb); have KA6 := Lib.hid (blk_below KA5.out hb); have KB6 := Lib.hid (blk_below KB5.out hb)
 clear hb HB5 KA5 KB5
 clear y0 y1 y2 y3 y4
 by_cases hr0 : r = 0
 rotate_left
 ·have hrb : (r != 0) = true := bne_iff_ne.mpr hr0
  clear hr0 hr
  go_wp2_with (fail)
  go_ret
  exact ⟨rfl, HB6.out⟩
 have HRB := Lib.hid (hr hr0)
 subst hr0
 clear hr
 obtain ⟨x0, x1, x2, x3, x4⟩ := cls5 KA6.out
 go_wp2_with (fail)
 refine (cost_c (HA.out.below HB6.out) HRA.out).mono ?_
 rintro en w7 ⟨rfl, hb⟩
 have HB7 := Lib.hid (below_step HB6.out hb); have KA7 := Lib.hid (blk_below KA6.out hb); have KB7 := Lib.hid (blk_below KB6.out hb)
 clear hb HB6 KA6 KB6
 clear x0 x1 x2 x3 x4
 by_cases hc : (30 : Int) < min ((cntE a : Nat) : Int) 201
 ·have hcb : decide ((30 : Int) < min ((cntE a : Nat) : Int) 201) = true := decide_eq_true hc
  clear hc
  go_wp2_with (fail)
  go_ret
  exact ⟨rfl, HB7.out⟩
 have hcA : decide ((30 : Int) < min ((cntE a : Nat) : Int) 201) = false := decide_eq_false hc
 have HCA := Lib.hid (show cntE a ≤ 30 by omega)
 clear hc
 obtain ⟨y0, y1, y2, y3, y4⟩ := cls5 KB7.out
 go_wp2_with (fail)
 refine (cost_c (HB_.out.below HB7.out) HRB.out).mono ?_
 rintro en w8 ⟨rfl, hb⟩
 have HB8 := Lib.hid (below_step HB7.out hb); have KA8 := Lib.hid (blk_below KA7.out hb); have KB8 := Lib.hid (blk_below KB7.out hb)
 clear hb HB7 KA7 KB7
 clear y0 y1 y2 y3 y4
 by_cases hc : (30 : Int) < min ((cntE b : Nat) : Int) 201
 ·have hcb : decide ((30 : Int) < min ((cntE b : Nat) : Int) 201) = true := decide_eq_true hc
  clear hc
  go_wp2_with (fail)
  go_ret
  exact ⟨rfl, HB8.out⟩
 have hcB : decide ((30 : Int) < min ((cntE b : Nat) : Int) 201) = false := decide_eq_false hc
 have HCB := Lib.hid (show cntE b ≤ 30 by omega)
 clear hc
 go_upto_region 5 with (fail)
 clear t1b t2b t3b t4b t5b t6b hcA hcB
 obtain ⟨x0, x1, x2, x3, x4⟩ := cls5 KA8.out
 obtain ⟨y0, y1, y2, y3, y4⟩ := cls5 KB8.out
 go_upto_region 6 with (fail)
 clear x0 x1 x2 x3 x4
 clear y0 y1 y2 y3 y4
 generalize hq : (w8.alloc (.cells #[.int .i64 a.f0, .int .i64 a.f1, .int .i64 a.f2, .int .i64 a.f3, .slice Aa a.f4.length ca, .int .i64 b.f0, .int .i64 b.f1, .int .i64 b.f2, .int .i64 b.f3, .slice Ab b.f4.length cb] 24)).alloc (.cells #[.int .i64 3, .int .i64 0, .int .i64 0, .int .i64 0, .slice (some ⟨w8.heap.size, 0, none⟩) 2 2] 24) = w9
 obtain ⟨hb, k1, k2⟩ := alloc2 hq
 have hea := (HA.out.below HB8.out).below hb; have heb := (HB_.out.below HB8.out).below hb
 have ES9 : Hid (E24 w9 ⟨3, 0, 0, 0, [a, b]⟩ (some ⟨w8.heap.size, 0, none⟩) 2) := Lib.hid (E24.mk2 3 0 0 0 (x := a) (y := b) hea heb k1)
 have KS9 := Lib.hid k2
 clear hq k1 k2 hea heb
 have HB9 := Lib.hid (below_step HB8.out hb); have KA9 := Lib.hid (blk_below KA8.out hb); have KB9 := Lib.hid (blk_below KB8.out hb)
 clear hb HB8 KA8 KB8
 generalize w8.heap.size + 1 = gS at KS9 ⊢
 generalize w8.heap.size = hS at KS9 ES9 ⊢
 obtain ⟨x0, x1, x2, x3, x4⟩ := cls5 KA9.out
 obtain ⟨y0, y1, y2, y3, y4⟩ := cls5 KB9.out
 go_upto_region 7 with (fail)
 clear x0 x1 x2 x3 x4
 clear y0 y1 y2 y3 y4
 generalize hq : (w9.alloc (.cells #[.int .i64 a.f0, .int .i64 a.f1, .int .i64 a.f2, .int .i64 a.f3, .slice Aa a.f4.length ca, .int .i64 b.f0, .int .i64 b.f1, .int .i64 b.f2, .int .i64 b.f3, .slice Ab b.f4.length cb] 24)).alloc (.cells #[.int .i64 4, .int .i64 0, .int .i64 0, .int .i64 0, .slice (some ⟨w9.heap.size, 0, none⟩) 2 2] 24) = w10
 obtain ⟨hb, k1, k2⟩ := alloc2 hq
 have hea := (HA.out.below HB9.out).below hb; have heb := (HB_.out.below HB9.out).below hb
 have EO10 : Hid (E24 w10 ⟨4, 0, 0, 0, [a, b]⟩ (some ⟨w9.heap.size, 0, none⟩) 2) := Lib.hid (E24.mk2 4 0 0 0 (x := a) (y := b) hea heb k1)
 have KO10 := Lib.hid k2
 have ES10 := Lib.hid (ES9.out.below hb)
 clear hq k1 k2 hea heb ES9
 have HB10 := Lib.hid (below_step HB9.out hb); have KA10 := Lib.hid (blk_below KA9.out hb); have KB10 := Lib.hid (blk_below KB9.out hb); have KS10 := Lib.hid (blk_below KS9.out hb)
 clear hb HB9 KA9 KB9 KS9
 generalize w9.heap.size + 1 = gO at KO10 ⊢
 generalize w9.heap.size = hO at KO10 EO10 ⊢
 obtain ⟨x0, x1, x2, x3, x4⟩ := cls5 KA10.out
 go_upto_region 8 with (fail)
 clear x0 x1 x2 x3 x4
 generalize hq : (w10.alloc (.cells #[.int .i64 a.f0, .int .i64 a.f1, .int .i64 a.f2, .int .i64 a.f3, .slice Aa a.f4.length ca] 24)).alloc (.cells #[.int .i64 5, .int .i64 0, .int .i64 lo, .int .i64 (-1), .slice (some ⟨w10.heap.size, 0, none⟩) 1 1] 24) = w11
 obtain ⟨hb, k1, k2⟩ := alloc2 hq
 have hea := (HA.out.below HB10.out).below hb; have heb := (HB_.out.below HB10.out).below hb
 have ER11 : Hid (E24 w11 ⟨5, 0, lo, -1, [a]⟩ (some ⟨w10.heap.size, 0, none⟩) 1) := Lib.hid (E24.mk1 5 0 lo (-1) (x := a) hea k1)
 have KR11 := Lib.hid k2
 have ES11 := Lib.hid (ES10.out.below hb)
 have EO11 := Lib.hid (EO10.out.below hb)
 clear hq k1 k2 hea heb ES10 EO10
 have HB11 := Lib.hid (below_step HB10.out hb); have KA11 := Lib.hid (blk_below KA10.out hb); have KB11 := Lib.hid (blk_below KB10.out hb); have KS11 := Lib.hid (blk_below KS10.out hb); have KO11 := Lib.hid (blk_below KO10.out hb)
 clear hb HB10 KA10 KB10 KS10 KO10
 generalize w10.heap.size + 1 = gR at KR11 ⊢
 generalize w10.heap.size = hR at KR11 ER11 ⊢
 obtain ⟨z0, z1, z2, z3, z4⟩ := cls5 KS11.out
 go_wp2_with (fail)
 refine (check_c ES11.out).mono ?_
 rintro en w12 ⟨⟨r, rfl, hr⟩, hb⟩
 have HB12 := Lib.hid (below_step HB11.out hb); have KA12 := Lib.hid (blk_below KA11.out hb); have KB12 := Lib.hid (blk_below KB11.out hb); have KS12 := Lib.hid (blk_below KS11.out hb); have KO12 := Lib.hid (blk_below KO11.out hb); have KR12 := Lib.hid (blk_below KR11.out hb); have ES12 := Lib.hid (ES11.out.below hb); have EO12 := Lib.hid (EO11.out.below hb); have ER12 := Lib.hid (ER11.out.below hb)
 clear hb HB11 KA11 KB11 KS11 KO11 KR11 ES11 EO11 ER11
 clear z0 z1 z2 z3 z4
 by_cases hr0 : r = 0
 rotate_left
 ·have hrb : (r != 0) = true := bne_iff_ne.mpr hr0
  clear hr0 hr
  go_wp2_with (fail)
  go_ret
  exact ⟨rfl, HB12.out⟩
 have HRS := Lib.hid (hr hr0)
 subst hr0
 clear hr
 obtain ⟨z0, z1, z2, z3, z4⟩ := cls5 KR12.out
 go_wp2_with (fail)
 refine (check_c ER12.out).mono ?_
 rintro en w13 ⟨⟨r, rfl, hr⟩, hb⟩
 have HB13 := Lib.hid (below_step HB12.out hb); have KA13 := Lib.hid (blk_below KA12.out hb); have KB13 := Lib.hid (blk_below KB12.out hb); have KS13 := Lib.hid (blk_below KS12.out hb); have KO13 := Lib.hid (blk_below KO12.out hb); have KR13 := Lib.hid (blk_below KR12.out hb); have ES13 := Lib.hid (ES12.out.below hb); have EO13 := Lib.hid (EO12.out.below hb); have ER13 := Lib.hid (ER12.out.below hb)
 clear hb HB12 KA12 KB12 KS12 KO12 KR12 ES12 EO12 ER12
 clear z0 z1 z2 z3 z4
 by_cases hr0 : r = 0
 rotate_left
 ·have hrb : (r != 0) = true := bne_iff_ne.mpr hr0
  clear hr0 hr
  go_wp2_with (fail)
  go_ret
  exact ⟨rfl, HB13.out⟩
 have HRR := Lib.hid (hr hr0)
 subst hr0
 clear hr
 have HRO := Lib.hid (or_right HRS.out)
 obtain ⟨z0, z1, z2, z3, z4⟩ := cls5 KS13.out
 go_wp2_with (fail)
 refine (build_c ES13.out (HT.out.below HB13.out) HRS.out 512 (by have h1 := HCA.out; have h2 := HCB.out; rw [j_cnt2 a b 3 (by decide)]; omega)).mono ?_
 rintro en w14 ⟨⟨x, xA0, xc0, xA2, xc2, xA3, xc3, xA4, xc4, rfl, hra, hoa⟩, hb⟩
 have HOx := Lib.hid hoa
 have HB14 := Lib.hid (below_step HB13.out hb); have KA14 := Lib.hid (blk_below KA13.out hb); have KB14 := Lib.hid (blk_below KB13.out hb); have KS14 := Lib.hid (blk_below KS13.out hb); have KO14 := Lib.hid (blk_below KO13.out hb); have KR14 := Lib.hid (blk_below KR13.out hb); have ES14 := Lib.hid (ES13.out.below hb); have EO14 := Lib.hid (EO13.out.below hb); have ER14 := Lib.hid (ER13.out.below hb)
 clear hb HB13 KA13 KB13 KS13 KO13 KR13 ES13 EO13 ER13
 clear z0 z1 z2 z3 z4
 go_upto_region 11 with (fail)
 generalize hq : w14.alloc (.cells #[.slice xA0 x.syms.length xc0, .bool x.null, .slice xA2 x.first.length xc2, .slice xA3 x.last.length xc3, .slice xA4 x.follow.length xc4] 33) = w15
 obtain ⟨hb, k1⟩ := alloc1 hq
 have Kx15 : Hid (w15.heap[w14.heap.size]? = some (AB x xA0 xc0 xA2 xc2 xA3 xc3 xA4 xc4)) := Lib.hid k1
 have Rx15 := Lib.hid (hra.below hb)
 clear hq k1 hra hoa
 have HB15 := Lib.hid (below_step HB14.out hb); have KA15 := Lib.hid (blk_below KA14.out hb); have KB15 := Lib.hid (blk_below KB14.out hb); have KS15 := Lib.hid (blk_below KS14.out hb); have KO15 := Lib.hid (blk_below KO14.out hb); have KR15 := Lib.hid (blk_below KR14.out hb); have ES15 := Lib.hid (ES14.out.below hb); have EO15 := Lib.hid (EO14.out.below hb); have ER15 := Lib.hid (ER14.out.below hb)
 clear hb HB14 KA14 KB14 KS14 KO14 KR14 ES14 EO14 ER14
 generalize w14.heap.size = gx at Kx15 ⊢
 obtain ⟨z0, z1, z2, z3, z4⟩ := cls5 KO15.out
 go_wp2_with (fail)
 refine (build_c EO15.out (HT.out.below HB15.out) HRO.out 512 (by have h1 := HCA.out; have h2 := HCB.out; rw [j_cnt2 a b 4 (by decide)]; omega)).mono ?_
 rintro en w16 ⟨⟨y, yA0, yc0, yA2, yc2, yA3, yc3, yA4, yc4, rfl, hra, hoa⟩, hb⟩
 have HOy := Lib.hid hoa
 have HB16 := Lib.hid (below_step HB15.out hb); have KA16 := Lib.hid (blk_below KA15.out hb); have KB16 := Lib.hid (blk_below KB15.out hb); have KS16 := Lib.hid (blk_below KS15.out hb); have KO16 := Lib.hid (blk_below KO15.out hb); have KR16 := Lib.hid (blk_below KR15.out hb); have Kx16 := Lib.hid (blk_below Kx15.out hb); have ES16 := Lib.hid (ES15.out.below hb); have EO16 := Lib.hid (EO15.out.below hb); have ER16 := Lib.hid (ER15.out.below hb); have Rx16 := Lib.hid (Rx15.out.below hb)
 clear hb HB15 KA15 KB15 KS15 KO15 KR15 Kx15 ES15 EO15 ER15 Rx15
 clear z0 z1 z2 z3 z4
 go_upto_region 12 with (fail)
 generalize hq : w16.alloc (.cells #[.slice yA0 y.syms.length yc0, .bool y.null, .slice yA2 y.first.length yc2, .slice yA3 y.last.length yc3, .slice yA4 y.follow.length yc4] 33) = w17
 obtain ⟨hb, k1⟩ := alloc1 hq
 have Ky17 : Hid (w17.heap[w16.heap.size]? = some (AB y yA0 yc0 yA2 yc2 yA3 yc3 yA4 yc4)) := Lib.hid k1
 have Ry17 := Lib.hid (hra.below hb)
 clear hq k1 hra hoa
 have HB17 := Lib.hid (below_step HB16.out hb); have KA17 := Lib.hid (blk_below KA16.out hb); have KB17 := Lib.hid (blk_below KB16.out hb); have KS17 := Lib.hid (blk_below KS16.out hb); have KO17 := Lib.hid (blk_below KO16.out hb); have KR17 := Lib.hid (blk_below KR16.out hb); have Kx17 := Lib.hid (blk_below Kx16.out hb); have ES17 := Lib.hid (ES16.out.below hb); have EO17 := Lib.hid (EO16.out.below hb); have ER17 := Lib.hid (ER16.out.below hb); have Rx17 := Lib.hid (Rx16.out.below hb)
 clear hb HB16 KA16 KB16 KS16 KO16 KR16 Kx16 ES16 EO16 ER16 Rx16
 generalize w16.heap.size = gy at Ky17 ⊢
 obtain ⟨z0, z1, z2, z3, z4⟩ := cls5 KR17.out
 go_wp2_with (fail)
 refine (build_c ER17.out (HT.out.below HB17.out) HRR.out 512 (by have h1 := HCA.out; have h2 := j_cnt1 a lo (by have := HLO.out; omega); omega)).mono ?_
 rintro en w18 ⟨⟨z, zA0, zc0, zA2, zc2, zA3, zc3, zA4, zc4, rfl, hra, hoa⟩, hb⟩
 have HOz := Lib.hid hoa
 have HB18 := Lib.hid (below_step HB17.out hb); have KA18 := Lib.hid (blk_below KA17.out hb); have KB18 := Lib.hid (blk_below KB17.out hb); have KS18 := Lib.hid (blk_below KS17.out hb); have KO18 := Lib.hid (blk_below KO17.out hb); have KR18 := Lib.hid (blk_below KR17.out hb); have Kx18 := Lib.hid (blk_below Kx17.out hb); have Ky18 := Lib.hid (blk_below Ky17.out hb); have ES18 := Lib.hid (ES17.out.below hb); have EO18 := Lib.hid (EO17.out.below hb); have ER18 := Lib.hid (ER17.out.below hb); have Rx18 := Lib.hid (Rx17.out.below hb); have Ry18 := Lib.hid (Ry17.out.below hb)
 clear hb HB17 KA17 KB17 KS17 KO17 KR17 Kx17 Ky17 ES17 EO17 ER17 Rx17 Ry17
 clear z0 z1 z2 z3 z4
 go_upto_region 13 with (fail)
 generalize hq : w18.alloc (.cells #[.slice zA0 z.syms.length zc0, .bool z.null, .slice zA2 z.first.length zc2, .slice zA3 z.last.length zc3, .slice zA4 z.follow.length zc4] 33) = w19
 obtain ⟨hb, k1⟩ := alloc1 hq
 have Kz19 : Hid (w19.heap[w18.heap.size]? = some (AB z zA0 zc0 zA2 zc2 zA3 zc3 zA4 zc4)) := Lib.hid k1
 have Rz19 := Lib.hid (hra.below hb)
 clear hq k1 hra hoa
 have HB19 := Lib.hid (below_step HB18.out hb); have KA19 := Lib.hid (blk_below KA18.out hb); have KB19 := Lib.hid (blk_below KB18.out hb); have KS19 := Lib.hid (blk_below KS18.out hb); have KO19 := Lib.hid (blk_below KO18.out hb); have KR19 := Lib.hid (blk_below KR18.out hb); have Kx19 := Lib.hid (blk_below Kx18.out hb); have Ky19 := Lib.hid (blk_below Ky18.out hb); have ES19 := Lib.hid (ES18.out.below hb); have EO19 := Lib.hid (EO18.out.below hb); have ER19 := Lib.hid (ER18.out.below hb); have Rx19 := Lib.hid (Rx18.out.below hb); have Ry19 := Lib.hid (Ry18.out.below hb)
 clear hb HB18 KA18 KB18 KS18 KO18 KR18 Kx18 Ky18 ES18 EO18 ER18 Rx18 Ry18
 generalize w18.heap.size = gz at Kz19 ⊢
 clear KS19 KO19 KR19 ES19 EO19 ER19
 obtain ⟨x0, x1, x2, x3, x4⟩ := cls5 KA19.out
 go_wp2_with (fail)
 refine (word_c (HA.out.below HB19.out) (HV.out.below HB19.out) (by have := HL1.out; omega) HRA.out).mono ?_
 rintro en w20 ⟨⟨p, rfl, hbb⟩, hb⟩
 have HP := Lib.hid hbb
 clear hbb
 have HB20 := Lib.hid (below_step HB19.out hb); have KA20 := Lib.hid (blk_below KA19.out hb); have KB20 := Lib.hid (blk_below KB19.out hb); have Kx20 := Lib.hid (blk_below Kx19.out hb); have Ky20 := Lib.hid (blk_below Ky19.out hb); have Kz20 := Lib.hid (blk_below Kz19.out hb); have Rx20 := Lib.hid (Rx19.out.below hb); have Ry20 := Lib.hid (Ry19.out.below hb); have Rz20 := Lib.hid (Rz19.out.below hb)
 clear hb HB19 KA19 KB19 Kx19 Ky19 Kz19 Rx19 Ry19 Rz19
 clear x0 x1 x2 x3 x4
 go_upto_region 18 with (fail)
 go_loopg [23, 24] (m + 1) (fun kq v23 v24 w' => ∃ (i : Nat) (Ar : Option Addr) (cr : Nat), v24 = .int .i64 i ∧ v23 = .slice Ar (rowN v i).length cr ∧ Hid (i ≤ m) ∧ Hid (kq = m + 1 - i) ∧ Hid (Kd.R KI 3 w' w20.heap.size (fun _ => True) (.slice Ar (rowN v i).length cr) (rowN v i)) ∧ Hid (Below w20.heap.size w20 w'))
 case atStart => exact ⟨0, none, 0, rfl, rfl, Lib.hid (Nat.zero_le _), Lib.hid rfl, Lib.hid (Kd.R_nil _ _ _ _ _), Lib.hid (Below.refl _ _)⟩
 case round =>
  obtain ⟨i, Ar, cr, rfl, rfl, HI, HQ, HRi, HBi⟩ := hrel
  by_cases hlt : i < m
  ·have hlt2 : decide ((i : Int) < (m : Int)) = true := decide_eq_true (by omega)
   have HLT := Lib.hid hlt
   have hwi : wrap64 ((i : Int) + 1) = ((i + 1 : Nat) : Int) := by have := HM4.out; unfold wrap64; omega
   clear hlt
   have hln : ((rowN v i).length + v.length) * 8 ≤ 140737488355328 := by
    have h1 := HL1.out; have h2 := HLT.out; have h3 := HM4.out
    have h4 : i * v.length ≤ 4 * 5 := Nat.mul_le_mul (by omega) (by omega)
    rw [rowN_len]; omega
   have HLN := Lib.hid hln; clear hln
   have HVi := Lib.hid (HV.out.below (below_step HB20.out HBi.out))
   go_wp2_with (first | ((with_reducible refine gate_dst (N := 132) rfl ?_); refine Kd.R_append_rows (w0 := w20) KI (Rr := KI.K wr) w20.heap.size ?hg (.tmp 130) (.tmp 131) 25 3 (.int .i64 0) 8 rfl Tryd.underlying25 (by kernel_rfl) rfl (by decide) (by decide) (.slice Ar (rowN v i).length cr) (rowN v i) v Av _ cv (fun _ => True) (fun _ => False) rfl rfl HRi.out HVi.out.C (fun _ _ h => h) (fun _ hk => hk.elim) (fun _ _ => trivial) HBi.out HBi.out.size HLN.out ?_; (case hg => rfl); intro v9 w9 hr9 hb9 hg9 hn9; obtain ⟨A9, c9, rfl⟩ := Kd.R_slice hr9; have HR9 := Lib.hid hr9; have HB9 := Lib.hid hb9; clear hr9 hb9 hg9 hn9))
   go_roundg (m + 1 - (i + 1))
   case measure => have h1 := HLT.out; have h2 := HQ.out; omega
   case rel => exact ⟨i + 1, A9, c9, by rw [hwi], by simp [rowN], Lib.hid HLT.out, Lib.hid rfl, Lib.hid (by have h := HR9.out; simpa [rowN] using h), HB9⟩
  have hi : i = m := by have := HI.out; omega
  subst hi
  have hlt2 : decide ((i : Int) < (i : Int)) = false := decide_eq_false (by omega)
  have HROW := Lib.hid (I24.of_R HRi.out)
  clear hlt HQ HI HRi
  go_upto_region 21 with (fail)
  clear hlt2
  have hb := HBi.out; clear HBi
  obtain ⟨w21, hq⟩ : ∃ q, q = wr := ⟨_, rfl⟩
  subst hq
  have HB21 := Lib.hid (below_step HB20.out hb); have KA21 := Lib.hid (blk_below KA20.out hb); have KB21 := Lib.hid (blk_below KB20.out hb); have Kx21 := Lib.hid (blk_below Kx20.out hb); have Ky21 := Lib.hid (blk_below Ky20.out hb); have Kz21 := Lib.hid (blk_below Kz20.out hb); have Rx21 := Lib.hid (Rx20.out.below hb); have Ry21 := Lib.hid (Ry20.out.below hb); have Rz21 := Lib.hid (Rz20.out.below hb)
  clear hb HB20 KA20 KB20 Kx20 Ky20 Kz20 Rx20 Ry20 Rz20
  cases p with
  | false =>
   obtain ⟨q, HQ_⟩ : ∃ q : Bool, Hid (q = true ↔ LangE b v) := ⟨dec (LangE b v), Lib.hid dec_iff⟩
   refine start_ (n := 28) (S := fun w' => w'.cell? ⟨gb, 0, none⟩ = some (.int .i64 b.f0) ∧ w'.cell? ⟨gb, 1, none⟩ = some (.int .i64 b.f1) ∧ w'.cell? ⟨gb, 2, none⟩ = some (.int .i64 b.f2) ∧ w'.cell? ⟨gb, 3, none⟩ = some (.int .i64 b.f3) ∧ w'.cell? ⟨gb, 4, none⟩ = some (.slice Ab b.f4.length cb) ∧ w'.cell? ⟨gx, 0, none⟩ = some (.slice xA0 x.syms.length xc0) ∧ w'.cell? ⟨gx, 1, none⟩ = some (.bool x.null) ∧ w'.cell? ⟨gx, 2, none⟩ = some (.slice xA2 x.first.length xc2) ∧ w'.cell? ⟨gx, 3, none⟩ = some (.slice xA3 x.last.length xc3) ∧ w'.cell? ⟨gx, 4, none⟩ = some (.slice xA4 x.follow.length xc4) ∧ w'.cell? ⟨gy, 0, none⟩ = some (.slice yA0 y.syms.length yc0) ∧ w'.cell? ⟨gy, 1, none⟩ = some (.bool y.null) ∧ w'.cell? ⟨gy, 2, none⟩ = some (.slice yA2 y.first.length yc2) ∧ w'.cell? ⟨gy, 3, none⟩ = some (.slice yA3 y.last.length yc3) ∧ w'.cell? ⟨gy, 4, none⟩ = some (.slice yA4 y.follow.length yc4)) (ds := []) (S.um 28 0) (by kernel_rfl) rfl rfl ⟨(blk_cell KB21.out 0).trans rfl, (blk_cell KB21.out 1).trans rfl, (blk_cell KB21.out 2).trans rfl, (blk_cell KB21.out 3).trans rfl, (blk_cell KB21.out 4).trans rfl, (blk_cell Kx21.out 0).trans rfl, (blk_cell Kx21.out 1).trans rfl, (blk_cell Kx21.out 2).trans rfl, (blk_cell Kx21.out 3).trans rfl, (blk_cell Kx21.out 4).trans rfl, (blk_cell Ky21.out 0).trans rfl, (blk_cell Ky21.out 1).trans rfl, (blk_cell Ky21.out 2).trans rfl, (blk_cell Ky21.out 3).trans rfl, (blk_cell Ky21.out 4).trans rfl⟩ (fun hHeld => ?_)
   refine with_tabW RJ.tab RJ.bits (fun HT_ HW_ => ?_)
   have HX_ := Lib.hid (below_drew1 (Below.refl w21.heap.size w21))
   have HBc := HX_
   refine S.p 28 0 133 1 HT_.out rfl rfl ?_
   refine S.p 28 1 134 3 HT_.out rfl rfl ?_
   refine S.u 28 3 136 11 HT_.out rfl rfl ?_
   refine S.u 28 2 135 15 HT_.out rfl rfl ?_
   refine S.u 28 4 137 31 HT_.out rfl rfl ?_
   refine S.p 28 5 138 63 HT_.out rfl rfl ?_
   refine S.p 28 6 139 127 HT_.out rfl rfl ?_
   refine S.u 28 7 140 255 HT_.out rfl rfl ?_
   refine S.u 28 9 142 767 HT_.out rfl rfl ?_
   refine S.u 28 11 144 2815 HT_.out rfl rfl ?_
   refine S.u 28 8 141 3071 HT_.out rfl rfl ?_
   refine S.u 28 10 143 4095 HT_.out rfl rfl ?_
   refine S.u 28 12 145 8191 HT_.out rfl rfl ?_
   refine S.u 28 13 146 16383 HT_.out rfl rfl ?_
   refine S.u 28 14 147 32767 HT_.out rfl rfl ?_
   refine S.p 28 15 148 65535 HT_.out rfl rfl ?_
   refine S.p 28 16 149 131071 HT_.out rfl rfl ?_
   refine S.p 28 18 151 393215 HT_.out rfl rfl ?_
   refine S.p 28 20 153 1441791 HT_.out rfl rfl ?_
   refine S.t 28 17 150 1572863 HT_.out HW_.out rfl rfl hHeld ?_
   refine S.o 28 19 152 2097151 HT_.out rfl rfl (fun K hK => ?_)
   refine S.g Tryd.func11 #[AVl y yA0 yc0 yA2 yc2 yA3 yc3 yA4 yc4, .slice Av v.length cv] rfl rfl ?_
   (with_reducible refine (aword_c (Ry21.out.below HBc.out) HOy.out (HV.out.below (below_step HB21.out HBc.out)) (by have := HL1.out; omega)).mono ?_)
   rintro e_ w26 ⟨hbb, hb⟩
   obtain rfl : e_ = .returned (.bool q) := by
    obtain ⟨b_, rfl, h⟩ := hbb
    rw [Bool.eq_iff_iff.2 ((h.trans j_alt).trans ((or_iff_right (fun hx => by have := HP.out.2 hx; cases this)).trans HQ_.out.symm))]
   refine ⟨_, rfl, ?_⟩
   have HBc_ := Lib.hid (below_step (HBc.out) hb)
   refine hK.out _ _ ⟨pw_cell_below hb hHeld.1, pw_cell_below hb hHeld.2.1, pw_cell_below hb hHeld.2.2.1, pw_cell_below hb hHeld.2.2.2.1, pw_cell_below hb hHeld.2.2.2.2.1, pw_cell_below hb hHeld.2.2.2.2.2.1, pw_cell_below hb hHeld.2.2.2.2.2.2.1, pw_cell_below hb hHeld.2.2.2.2.2.2.2.1, pw_cell_below hb hHeld.2.2.2.2.2.2.2.2.1, pw_cell_below hb hHeld.2.2.2.2.2.2.2.2.2.1, pw_cell_below hb hHeld.2.2.2.2.2.2.2.2.2.2.1, pw_cell_below hb hHeld.2.2.2.2.2.2.2.2.2.2.2.1, pw_cell_below hb hHeld.2.2.2.2.2.2.2.2.2.2.2.2.1, pw_cell_below hb hHeld.2.2.2.2.2.2.2.2.2.2.2.2.2.1, pw_cell_below hb hHeld.2.2.2.2.2.2.2.2.2.2.2.2.2.2⟩ (fun hHeld => ?_)
   clear hK K hb hbb HBc
   have HBc := HBc_
   clear HBc_
   refine S.w 152 ?_
   refine S.p 28 21 154 4194303 HT_.out rfl rfl ?_
   refine S.p 28 23 156 12582911 HT_.out rfl rfl ?_
   refine S.t 28 22 155 16777215 HT_.out HW_.out rfl rfl hHeld ?_
   refine S.o 28 24 157 33554431 HT_.out rfl rfl (fun K hK => ?_)
   refine S.g Tryd.func10 #[EV b Ab cb, .slice Av v.length cv] rfl rfl ?_
   (with_reducible refine (word_c (HB_.out.below (below_step HB21.out HBc.out)) (HV.out.below (below_step HB21.out HBc.out)) (by have := HL1.out; omega) HRB.out).mono ?_)
   rintro e_ w27 ⟨hbb, hb⟩
   obtain rfl : e_ = .returned (.bool q) := by
    obtain ⟨b_, rfl, h⟩ := hbb
    rw [Bool.eq_iff_iff.2 (h.trans HQ_.out.symm)]
   refine ⟨_, rfl, ?_⟩
   have HBc_ := Lib.hid (below_step (HBc.out) hb)
   refine hK.out _ _ ⟨pw_cell_below hb hHeld.1, pw_cell_below hb hHeld.2.1, pw_cell_below hb hHeld.2.2.1, pw_cell_below hb hHeld.2.2.2.1, pw_cell_below hb hHeld.2.2.2.2.1, pw_cell_below hb hHeld.2.2.2.2.2.1, pw_cell_below hb hHeld.2.2.2.2.2.2.1, pw_cell_below hb hHeld.2.2.2.2.2.2.2.1, pw_cell_below hb hHeld.2.2.2.2.2.2.2.2.1, pw_cell_below hb hHeld.2.2.2.2.2.2.2.2.2.1, pw_cell_below hb hHeld.2.2.2.2.2.2.2.2.2.2.1, pw_cell_below hb hHeld.2.2.2.2.2.2.2.2.2.2.2.1, pw_cell_below hb hHeld.2.2.2.2.2.2.2.2.2.2.2.2.1, pw_cell_below hb hHeld.2.2.2.2.2.2.2.2.2.2.2.2.2.1, pw_cell_below hb hHeld.2.2.2.2.2.2.2.2.2.2.2.2.2.2⟩ (fun hHeld => ?_)
   clear hK K hb hbb HBc
   have HBc := HBc_
   clear HBc_
   refine S.w 157 ?_
   have hne : (q != q) = false := by simp
   refine S.p 28 25 158 67108863 HT_.out rfl rfl ?_
   refine S.p 28 26 159 134217727 HT_.out rfl rfl ?_
   refine S.p 28 27 160 268435455 HT_.out rfl rfl ?_
   refine done_ (done_of HT_.out (by kernel_rfl)) ?_; clear HT_ HW_ hHeld
   go_wp2_with (fail)
   go_ret
   exact ⟨rfl, below_step HB21.out HBc.out⟩
  | true =>
   have HPT := Lib.hid (HP.out.1 (by first | rfl | trivial))
   obtain ⟨q, HQ_⟩ : ∃ q : Bool, Hid (q = true ↔ LangE b u) := ⟨dec (LangE b u), Lib.hid dec_iff⟩
   cases q with
   | false =>
    refine start_ (n := 28) (S := fun w' => w'.cell? ⟨gb, 0, none⟩ = some (.int .i64 b.f0) ∧ w'.cell? ⟨gb, 1, none⟩ = some (.int .i64 b.f1) ∧ w'.cell? ⟨gb, 2, none⟩ = some (.int .i64 b.f2) ∧ w'.cell? ⟨gb, 3, none⟩ = some (.int .i64 b.f3) ∧ w'.cell? ⟨gb, 4, none⟩ = some (.slice Ab b.f4.length cb) ∧ w'.cell? ⟨gx, 0, none⟩ = some (.slice xA0 x.syms.length xc0) ∧ w'.cell? ⟨gx, 1, none⟩ = some (.bool x.null) ∧ w'.cell? ⟨gx, 2, none⟩ = some (.slice xA2 x.first.length xc2) ∧ w'.cell? ⟨gx, 3, none⟩ = some (.slice xA3 x.last.length xc3) ∧ w'.cell? ⟨gx, 4, none⟩ = some (.slice xA4 x.follow.length xc4) ∧ w'.cell? ⟨gy, 0, none⟩ = some (.slice yA0 y.syms.length yc0) ∧ w'.cell? ⟨gy, 1, none⟩ = some (.bool y.null) ∧ w'.cell? ⟨gy, 2, none⟩ = some (.slice yA2 y.first.length yc2) ∧ w'.cell? ⟨gy, 3, none⟩ = some (.slice yA3 y.last.length yc3) ∧ w'.cell? ⟨gy, 4, none⟩ = some (.slice yA4 y.follow.length yc4)) (ds := []) (S.um 28 0) (by kernel_rfl) rfl rfl ⟨(blk_cell KB21.out 0).trans rfl, (blk_cell KB21.out 1).trans rfl, (blk_cell KB21.out 2).trans rfl, (blk_cell KB21.out 3).trans rfl, (blk_cell KB21.out 4).trans rfl, (blk_cell Kx21.out 0).trans rfl, (blk_cell Kx21.out 1).trans rfl, (blk_cell Kx21.out 2).trans rfl, (blk_cell Kx21.out 3).trans rfl, (blk_cell Kx21.out 4).trans rfl, (blk_cell Ky21.out 0).trans rfl, (blk_cell Ky21.out 1).trans rfl, (blk_cell Ky21.out 2).trans rfl, (blk_cell Ky21.out 3).trans rfl, (blk_cell Ky21.out 4).trans rfl⟩ (fun hHeld => ?_)
    refine with_tabW RJ.tab RJ.bits (fun HT_ HW_ => ?_)
    have HX_ := Lib.hid (below_drew1 (Below.refl w21.heap.size w21))
    have HBc := HX_
    refine S.p 28 0 133 1 HT_.out rfl rfl ?_
    refine S.p 28 1 134 3 HT_.out rfl rfl ?_
    refine S.p 28 3 136 11 HT_.out rfl rfl ?_
    refine S.t 28 2 135 15 HT_.out HW_.out rfl rfl hHeld ?_
    refine S.o 28 4 137 31 HT_.out rfl rfl (fun K hK => ?_)
    refine S.g Tryd.func10 #[EV b Ab cb, .slice Au u.length cu] rfl rfl ?_
    (with_reducible refine (word_c (HB_.out.below (below_step HB21.out HBc.out)) (HU.out.below (below_step HB21.out HBc.out)) (by have := HL2.out; omega) HRB.out).mono ?_)
    rintro e_ w22 ⟨hbb, hb⟩
    obtain rfl : e_ = .returned (.bool false) := by
     obtain ⟨b_, rfl, h⟩ := hbb
     rw [Bool.eq_iff_iff.2 (h.trans HQ_.out.symm)]
    refine ⟨_, rfl, ?_⟩
    have HBc_ := Lib.hid (below_step (HBc.out) hb)
    refine hK.out _ _ ⟨pw_cell_below hb hHeld.1, pw_cell_below hb hHeld.2.1, pw_cell_below hb hHeld.2.2.1, pw_cell_below hb hHeld.2.2.2.1, pw_cell_below hb hHeld.2.2.2.2.1, pw_cell_below hb hHeld.2.2.2.2.2.1, pw_cell_below hb hHeld.2.2.2.2.2.2.1, pw_cell_below hb hHeld.2.2.2.2.2.2.2.1, pw_cell_below hb hHeld.2.2.2.2.2.2.2.2.1, pw_cell_below hb hHeld.2.2.2.2.2.2.2.2.2.1, pw_cell_below hb hHeld.2.2.2.2.2.2.2.2.2.2.1, pw_cell_below hb hHeld.2.2.2.2.2.2.2.2.2.2.2.1, pw_cell_below hb hHeld.2.2.2.2.2.2.2.2.2.2.2.2.1, pw_cell_below hb hHeld.2.2.2.2.2.2.2.2.2.2.2.2.2.1, pw_cell_below hb hHeld.2.2.2.2.2.2.2.2.2.2.2.2.2.2⟩ (fun hHeld => ?_)
    clear hK K hb hbb HBc
    have HBc := HBc_
    clear HBc_
    refine S.w 137 ?_
    refine S.p 28 5 138 63 HT_.out rfl rfl ?_
    refine S.p 28 6 139 127 HT_.out rfl rfl ?_
    refine S.u 28 7 140 255 HT_.out rfl rfl ?_
    refine S.u 28 9 142 767 HT_.out rfl rfl ?_
    refine S.u 28 11 144 2815 HT_.out rfl rfl ?_
    refine S.u 28 8 141 3071 HT_.out rfl rfl ?_
    refine S.u 28 10 143 4095 HT_.out rfl rfl ?_
    refine S.u 28 12 145 8191 HT_.out rfl rfl ?_
    refine S.u 28 13 146 16383 HT_.out rfl rfl ?_
    refine S.u 28 14 147 32767 HT_.out rfl rfl ?_
    refine S.p 28 15 148 65535 HT_.out rfl rfl ?_
    refine S.p 28 16 149 131071 HT_.out rfl rfl ?_
    refine S.p 28 18 151 393215 HT_.out rfl rfl ?_
    refine S.p 28 20 153 1441791 HT_.out rfl rfl ?_
    refine S.t 28 17 150 1572863 HT_.out HW_.out rfl rfl hHeld ?_
    refine S.o 28 19 152 2097151 HT_.out rfl rfl (fun K hK => ?_)
    refine S.g Tryd.func11 #[AVl y yA0 yc0 yA2 yc2 yA3 yc3 yA4 yc4, .slice Av v.length cv] rfl rfl ?_
    (with_reducible refine (aword_c (Ry21.out.below HBc.out) HOy.out (HV.out.below (below_step HB21.out HBc.out)) (by have := HL1.out; omega)).mono ?_)
    rintro e_ w26 ⟨hbb, hb⟩
    obtain rfl : e_ = .returned (.bool true) := by
     obtain ⟨b_, rfl, h⟩ := hbb
     rw [h.2 (j_alt.2 (.inl HPT.out))]
    refine ⟨_, rfl, ?_⟩
    have HBc_ := Lib.hid (below_step (HBc.out) hb)
    refine hK.out _ _ ⟨pw_cell_below hb hHeld.1, pw_cell_below hb hHeld.2.1, pw_cell_below hb hHeld.2.2.1, pw_cell_below hb hHeld.2.2.2.1, pw_cell_below hb hHeld.2.2.2.2.1, pw_cell_below hb hHeld.2.2.2.2.2.1, pw_cell_below hb hHeld.2.2.2.2.2.2.1, pw_cell_below hb hHeld.2.2.2.2.2.2.2.1, pw_cell_below hb hHeld.2.2.2.2.2.2.2.2.1, pw_cell_below hb hHeld.2.2.2.2.2.2.2.2.2.1, pw_cell_below hb hHeld.2.2.2.2.2.2.2.2.2.2.1, pw_cell_below hb hHeld.2.2.2.2.2.2.2.2.2.2.2.1, pw_cell_below hb hHeld.2.2.2.2.2.2.2.2.2.2.2.2.1, pw_cell_below hb hHeld.2.2.2.2.2.2.2.2.2.2.2.2.2.1, pw_cell_below hb hHeld.2.2.2.2.2.2.2.2.2.2.2.2.2.2⟩ (fun hHeld => ?_)
    clear hK K hb hbb HBc
    have HBc := HBc_
    clear HBc_
    refine S.w 152 ?_
    refine S.p 28 21 154 4194303 HT_.out rfl rfl ?_
    refine S.u 28 23 156 12582911 HT_.out rfl rfl ?_
    refine S.u 28 22 155 16777215 HT_.out rfl rfl ?_
    refine S.u 28 24 157 33554431 HT_.out rfl rfl ?_
    refine S.p 28 25 158 67108863 HT_.out rfl rfl ?_
    refine S.p 28 26 159 134217727 HT_.out rfl rfl ?_
    refine S.p 28 27 160 268435455 HT_.out rfl rfl ?_
    refine done_ (done_of HT_.out (by kernel_rfl)) ?_; clear HT_ HW_ hHeld
    by_cases hlo : (i : Int) < lo
    ·have hlb : decide ((i : Int) < lo) = true := decide_eq_true hlo
     clear hlo
     go_wp2_with (fail)
     go_ret
     exact ⟨rfl, below_step HB21.out HBc.out⟩
    ·have hlb : decide ((i : Int) < lo) = false := decide_eq_false hlo
     have HLO2 := Lib.hid (show lo ≤ (i : Int) by omega)
     clear hlo
     have KZ := Lib.hid (blk_below Kz21.out HBc.out)
     obtain ⟨z0, z1, z2, z3, z4⟩ := cls5 KZ.out
     go_wp2_with (fail)
     refine (aword_c (Rz21.out.below HBc.out) HOz.out (HROW.out.below HBc.out) (by have h1 := HL1.out; have h3 := HM4.out; have h4 : i * v.length ≤ 4 * 5 := Nat.mul_le_mul (by omega) (by omega); rw [rowN_len]; omega)).mono ?_
     rintro e_ w28 ⟨hbb, hb⟩
     obtain rfl : e_ = .returned (.bool true) := by
      obtain ⟨b_, rfl, h⟩ := hbb
      rw [h.2 (j_rep HPT.out HLO2.out)]
     clear z0 z1 z2 z3 z4
     go_wp2_with (fail)
     go_ret
     exact ⟨rfl, below_step (below_step HB21.out HBc.out) hb⟩
   | true =>
    refine start_ (n := 28) (S := fun w' => w'.cell? ⟨gb, 0, none⟩ = some (.int .i64 b.f0) ∧ w'.cell? ⟨gb, 1, none⟩ = some (.int .i64 b.f1) ∧ w'.cell? ⟨gb, 2, none⟩ = some (.int .i64 b.f2) ∧ w'.cell? ⟨gb, 3, none⟩ = some (.int .i64 b.f3) ∧ w'.cell? ⟨gb, 4, none⟩ = some (.slice Ab b.f4.length cb) ∧ w'.cell? ⟨gx, 0, none⟩ = some (.slice xA0 x.syms.length xc0) ∧ w'.cell? ⟨gx, 1, none⟩ = some (.bool x.null) ∧ w'.cell? ⟨gx, 2, none⟩ = some (.slice xA2 x.first.length xc2) ∧ w'.cell? ⟨gx, 3, none⟩ = some (.slice xA3 x.last.length xc3) ∧ w'.cell? ⟨gx, 4, none⟩ = some (.slice xA4 x.follow.length xc4) ∧ w'.cell? ⟨gy, 0, none⟩ = some (.slice yA0 y.syms.length yc0) ∧ w'.cell? ⟨gy, 1, none⟩ = some (.bool y.null) ∧ w'.cell? ⟨gy, 2, none⟩ = some (.slice yA2 y.first.length yc2) ∧ w'.cell? ⟨gy, 3, none⟩ = some (.slice yA3 y.last.length yc3) ∧ w'.cell? ⟨gy, 4, none⟩ = some (.slice yA4 y.follow.length yc4)) (ds := []) (S.um 28 0) (by kernel_rfl) rfl rfl ⟨(blk_cell KB21.out 0).trans rfl, (blk_cell KB21.out 1).trans rfl, (blk_cell KB21.out 2).trans rfl, (blk_cell KB21.out 3).trans rfl, (blk_cell KB21.out 4).trans rfl, (blk_cell Kx21.out 0).trans rfl, (blk_cell Kx21.out 1).trans rfl, (blk_cell Kx21.out 2).trans rfl, (blk_cell Kx21.out 3).trans rfl, (blk_cell Kx21.out 4).trans rfl, (blk_cell Ky21.out 0).trans rfl, (blk_cell Ky21.out 1).trans rfl, (blk_cell Ky21.out 2).trans rfl, (blk_cell Ky21.out 3).trans rfl, (blk_cell Ky21.out 4).trans rfl⟩ (fun hHeld => ?_)
    refine with_tabW RJ.tab RJ.bits (fun HT_ HW_ => ?_)
    have HX_ := Lib.hid (below_drew1 (Below.refl w21.heap.size w21))
    have HBc := HX_
    refine S.p 28 0 133 1 HT_.out rfl rfl ?_
    refine S.p 28 1 134 3 HT_.out rfl rfl ?_
    refine S.p 28 3 136 11 HT_.out rfl rfl ?_
    refine S.t 28 2 135 15 HT_.out HW_.out rfl rfl hHeld ?_
    refine S.o 28 4 137 31 HT_.out rfl rfl (fun K hK => ?_)
    refine S.g Tryd.func10 #[EV b Ab cb, .slice Au u.length cu] rfl rfl ?_
    (with_reducible refine (word_c (HB_.out.below (below_step HB21.out HBc.out)) (HU.out.below (below_step HB21.out HBc.out)) (by have := HL2.out; omega) HRB.out).mono ?_)
    rintro e_ w22 ⟨hbb, hb⟩
    obtain rfl : e_ = .returned (.bool true) := by
     obtain ⟨b_, rfl, h⟩ := hbb
     rw [Bool.eq_iff_iff.2 (h.trans HQ_.out.symm)]
    refine ⟨_, rfl, ?_⟩
    have HBc_ := Lib.hid (below_step (HBc.out) hb)
    refine hK.out _ _ ⟨pw_cell_below hb hHeld.1, pw_cell_below hb hHeld.2.1, pw_cell_below hb hHeld.2.2.1, pw_cell_below hb hHeld.2.2.2.1, pw_cell_below hb hHeld.2.2.2.2.1, pw_cell_below hb hHeld.2.2.2.2.2.1, pw_cell_below hb hHeld.2.2.2.2.2.2.1, pw_cell_below hb hHeld.2.2.2.2.2.2.2.1, pw_cell_below hb hHeld.2.2.2.2.2.2.2.2.1, pw_cell_below hb hHeld.2.2.2.2.2.2.2.2.2.1, pw_cell_below hb hHeld.2.2.2.2.2.2.2.2.2.2.1, pw_cell_below hb hHeld.2.2.2.2.2.2.2.2.2.2.2.1, pw_cell_below hb hHeld.2.2.2.2.2.2.2.2.2.2.2.2.1, pw_cell_below hb hHeld.2.2.2.2.2.2.2.2.2.2.2.2.2.1, pw_cell_below hb hHeld.2.2.2.2.2.2.2.2.2.2.2.2.2.2⟩ (fun hHeld => ?_)
    clear hK K hb hbb HBc
    have HBc := HBc_
    clear HBc_
    refine S.w 137 ?_
    refine S.p 28 5 138 63 HT_.out rfl rfl ?_
    refine S.p 28 6 139 127 HT_.out rfl rfl ?_
    refine S.p 28 9 142 639 HT_.out rfl rfl ?_
    refine S.p 28 11 144 2687 HT_.out rfl rfl ?_
    refine S.t 28 7 140 2815 HT_.out HW_.out rfl rfl hHeld ?_
    refine S.o 28 8 141 3071 HT_.out rfl rfl (fun K hK => ?_)
    refine value_ (w1 := ?_) (v := ?_) (by rfl) rfl ?_ ?_
    rotate_left 2
    ·go_simp
     constructor
     ·rfl
     ·rfl
    have HR_ := Lib.hid (R_empty (W := w22) (base := w22.heap.size) (Nat.le_refl _) 3)
    have HBd := Lib.hid (below_alloc (Below.refl w22.heap.size w22) (.cells #[] 3))
    have hH22 := hHeld
    refine hK.out _ _ ⟨pw_cell_below HBd.out hHeld.1, pw_cell_below HBd.out hHeld.2.1, pw_cell_below HBd.out hHeld.2.2.1, pw_cell_below HBd.out hHeld.2.2.2.1, pw_cell_below HBd.out hHeld.2.2.2.2.1, pw_cell_below HBd.out hHeld.2.2.2.2.2.1, pw_cell_below HBd.out hHeld.2.2.2.2.2.2.1, pw_cell_below HBd.out hHeld.2.2.2.2.2.2.2.1, pw_cell_below HBd.out hHeld.2.2.2.2.2.2.2.2.1, pw_cell_below HBd.out hHeld.2.2.2.2.2.2.2.2.2.1, pw_cell_below HBd.out hHeld.2.2.2.2.2.2.2.2.2.2.1, pw_cell_below HBd.out hHeld.2.2.2.2.2.2.2.2.2.2.2.1, pw_cell_below HBd.out hHeld.2.2.2.2.2.2.2.2.2.2.2.2.1, pw_cell_below HBd.out hHeld.2.2.2.2.2.2.2.2.2.2.2.2.2.1, pw_cell_below HBd.out hHeld.2.2.2.2.2.2.2.2.2.2.2.2.2.2⟩ (fun hHeld => ?_)
    clear hK K hHeld
    refine S.w 141 ?_
    refine S.o 28 10 143 4095 HT_.out rfl rfl (fun K hK => ?_)
    refine Kd.R_append_rows_step (w0 := w22) KI (Rr := KI.K (w22.alloc (.cells #[] 3))) w22.heap.size (by rfl) (.tmp 141) (.tmp 142) 25 3 (.int .i64 0) 8 rfl Tryd.underlying25 (by kernel_rfl) rfl (by decide) (by decide) (.slice (some ⟨w22.heap.size, 0, none⟩) 0 0) ([]) v Av _ cv (fun _ => True) (fun _ => False) rfl rfl HR_.out (HV.out.below (below_step (below_step HB21.out HBc.out) HBd.out)).C (fun _ _ h => h) (fun _ hk => hk.elim) (fun _ _ => trivial) HBd.out HBd.out.size (by have h1 := HL1.out; have h2 := HL2.out; (try simp only [List.length_nil]); omega) ?_
    intro v_ w23 hr_ hb_ hg_ hn_
    rw [List.nil_append] at hr_
    obtain ⟨A5, c5, rfl⟩ := Kd.R_slice hr_
    clear HR_ HBd
    have HR_ := Lib.hid hr_; have HBd := Lib.hid hb_
    refine hK.out _ _ ⟨pw_cell_below HBd.out hH22.1, pw_cell_below HBd.out hH22.2.1, pw_cell_below HBd.out hH22.2.2.1, pw_cell_below HBd.out hH22.2.2.2.1, pw_cell_below HBd.out hH22.2.2.2.2.1, pw_cell_below HBd.out hH22.2.2.2.2.2.1, pw_cell_below HBd.out hH22.2.2.2.2.2.2.1, pw_cell_below HBd.out hH22.2.2.2.2.2.2.2.1, pw_cell_below HBd.out hH22.2.2.2.2.2.2.2.2.1, pw_cell_below HBd.out hH22.2.2.2.2.2.2.2.2.2.1, pw_cell_below HBd.out hH22.2.2.2.2.2.2.2.2.2.2.1, pw_cell_below HBd.out hH22.2.2.2.2.2.2.2.2.2.2.2.1, pw_cell_below HBd.out hH22.2.2.2.2.2.2.2.2.2.2.2.2.1, pw_cell_below HBd.out hH22.2.2.2.2.2.2.2.2.2.2.2.2.2.1, pw_cell_below HBd.out hH22.2.2.2.2.2.2.2.2.2.2.2.2.2.2⟩ (fun hHeld => ?_)
    clear hK K hr_ hb_ hg_ hn_ hHeld
    refine S.w 143 ?_
    refine S.o 28 12 145 8191 HT_.out rfl rfl (fun K hK => ?_)
    refine Kd.R_append_rows_step (w0 := w22) KI (Rr := KI.K (w23)) w22.heap.size (by rfl) (.tmp 143) (.tmp 144) 25 3 (.int .i64 0) 8 rfl Tryd.underlying25 (by kernel_rfl) rfl (by decide) (by decide) (.slice A5 v.length c5) (v) u Au _ cu (fun _ => True) (fun _ => False) rfl rfl HR_.out (HU.out.below (below_step (below_step HB21.out HBc.out) HBd.out)).C (fun _ _ h => h) (fun _ hk => hk.elim) (fun _ _ => trivial) HBd.out HBd.out.size (by have h1 := HL1.out; have h2 := HL2.out; (try simp only [List.length_nil]); omega) ?_
    intro v_ w24 hr_ hb_ hg_ hn_
    generalize hvu : v ++ u = vu at hr_
    have HVU := Lib.hid hvu; clear hvu
    obtain ⟨A6, c6, rfl⟩ := Kd.R_slice hr_
    clear HR_ HBd
    have HR_ := Lib.hid hr_; have HBd := Lib.hid hb_
    refine hK.out _ _ ⟨pw_cell_below HBd.out hH22.1, pw_cell_below HBd.out hH22.2.1, pw_cell_below HBd.out hH22.2.2.1, pw_cell_below HBd.out hH22.2.2.2.1, pw_cell_below HBd.out hH22.2.2.2.2.1, pw_cell_below HBd.out hH22.2.2.2.2.2.1, pw_cell_below HBd.out hH22.2.2.2.2.2.2.1, pw_cell_below HBd.out hH22.2.2.2.2.2.2.2.1, pw_cell_below HBd.out hH22.2.2.2.2.2.2.2.2.1, pw_cell_below HBd.out hH22.2.2.2.2.2.2.2.2.2.1, pw_cell_below HBd.out hH22.2.2.2.2.2.2.2.2.2.2.1, pw_cell_below HBd.out hH22.2.2.2.2.2.2.2.2.2.2.2.1, pw_cell_below HBd.out hH22.2.2.2.2.2.2.2.2.2.2.2.2.1, pw_cell_below HBd.out hH22.2.2.2.2.2.2.2.2.2.2.2.2.2.1, pw_cell_below HBd.out hH22.2.2.2.2.2.2.2.2.2.2.2.2.2.2⟩ (fun hHeld => ?_)
    clear hK K hr_ hb_ hg_ hn_ hH22
    refine S.w 145 ?_
    refine S.o 28 13 146 16383 HT_.out rfl rfl (fun K hK => ?_)
    refine S.g Tryd.func11 #[AVl x xA0 xc0 xA2 xc2 xA3 xc3 xA4 xc4, .slice A6 vu.length c6] rfl rfl ?_
    (with_reducible refine (aword_c (Rx21.out.below (below_step HBc.out HBd.out)) HOx.out (I24.of_R HR_.out) (by have h1 := HL1.out; have h2 := HL2.out; rw [← HVU.out, List.length_append]; omega)).mono ?_)
    rintro e_ w25 ⟨hbb, hb⟩
    obtain rfl : e_ = .returned (.bool true) := by
     obtain ⟨b_, rfl, h⟩ := hbb
     rw [h.2 (by rw [← HVU.out]; exact j_seq HPT.out (HQ_.out.1 rfl))]
    refine ⟨_, rfl, ?_⟩
    have HBc_ := Lib.hid (below_step (below_step HBc.out HBd.out) hb)
    refine hK.out _ _ ⟨pw_cell_below hb hHeld.1, pw_cell_below hb hHeld.2.1, pw_cell_below hb hHeld.2.2.1, pw_cell_below hb hHeld.2.2.2.1, pw_cell_below hb hHeld.2.2.2.2.1, pw_cell_below hb hHeld.2.2.2.2.2.1, pw_cell_below hb hHeld.2.2.2.2.2.2.1, pw_cell_below hb hHeld.2.2.2.2.2.2.2.1, pw_cell_below hb hHeld.2.2.2.2.2.2.2.2.1, pw_cell_below hb hHeld.2.2.2.2.2.2.2.2.2.1, pw_cell_below hb hHeld.2.2.2.2.2.2.2.2.2.2.1, pw_cell_below hb hHeld.2.2.2.2.2.2.2.2.2.2.2.1, pw_cell_below hb hHeld.2.2.2.2.2.2.2.2.2.2.2.2.1, pw_cell_below hb hHeld.2.2.2.2.2.2.2.2.2.2.2.2.2.1, pw_cell_below hb hHeld.2.2.2.2.2.2.2.2.2.2.2.2.2.2⟩ (fun hHeld => ?_)
    clear hK K hb hbb HBc
    have HBc := HBc_
    clear HBc_
    refine S.w 146 ?_
    clear HR_ HBd
    refine S.p 28 14 147 32767 HT_.out rfl rfl ?_
    refine S.p 28 15 148 65535 HT_.out rfl rfl ?_
    refine S.p 28 16 149 131071 HT_.out rfl rfl ?_
    refine S.p 28 18 151 393215 HT_.out rfl rfl ?_
    refine S.p 28 20 153 1441791 HT_.out rfl rfl ?_
    refine S.t 28 17 150 1572863 HT_.out HW_.out rfl rfl hHeld ?_
    refine S.o 28 19 152 2097151 HT_.out rfl rfl (fun K hK => ?_)
    refine S.g Tryd.func11 #[AVl y yA0 yc0 yA2 yc2 yA3 yc3 yA4 yc4, .slice Av v.length cv] rfl rfl ?_
    (with_reducible refine (aword_c (Ry21.out.below HBc.out) HOy.out (HV.out.below (below_step HB21.out HBc.out)) (by have := HL1.out; omega)).mono ?_)
    rintro e_ w26 ⟨hbb, hb⟩
    obtain rfl : e_ = .returned (.bool true) := by
     obtain ⟨b_, rfl, h⟩ := hbb
     rw [h.2 (j_alt.2 (.inl HPT.out))]
    refine ⟨_, rfl, ?_⟩
    have HBc_ := Lib.hid (below_step (HBc.out) hb)
    refine hK.out _ _ ⟨pw_cell_below hb hHeld.1, pw_cell_below hb hHeld.2.1, pw_cell_below hb hHeld.2.2.1, pw_cell_below hb hHeld.2.2.2.1, pw_cell_below hb hHeld.2.2.2.2.1, pw_cell_below hb hHeld.2.2.2.2.2.1, pw_cell_below hb hHeld.2.2.2.2.2.2.1, pw_cell_below hb hHeld.2.2.2.2.2.2.2.1, pw_cell_below hb hHeld.2.2.2.2.2.2.2.2.1, pw_cell_below hb hHeld.2.2.2.2.2.2.2.2.2.1, pw_cell_below hb hHeld.2.2.2.2.2.2.2.2.2.2.1, pw_cell_below hb hHeld.2.2.2.2.2.2.2.2.2.2.2.1, pw_cell_below hb hHeld.2.2.2.2.2.2.2.2.2.2.2.2.1, pw_cell_below hb hHeld.2.2.2.2.2.2.2.2.2.2.2.2.2.1, pw_cell_below hb hHeld.2.2.2.2.2.2.2.2.2.2.2.2.2.2⟩ (fun hHeld => ?_)
    clear hK K hb hbb HBc
    have HBc := HBc_
    clear HBc_
    refine S.w 152 ?_
    refine S.p 28 21 154 4194303 HT_.out rfl rfl ?_
    refine S.u 28 23 156 12582911 HT_.out rfl rfl ?_
    refine S.u 28 22 155 16777215 HT_.out rfl rfl ?_
    refine S.u 28 24 157 33554431 HT_.out rfl rfl ?_
    refine S.p 28 25 158 67108863 HT_.out rfl rfl ?_
    refine S.p 28 26 159 134217727 HT_.out rfl rfl ?_
    refine S.p 28 27 160 268435455 HT_.out rfl rfl ?_
    refine done_ (done_of HT_.out (by kernel_rfl)) ?_; clear HT_ HW_ hHeld
    by_cases hlo : (i : Int) < lo
    ·have hlb : decide ((i : Int) < lo) = true := decide_eq_true hlo
     clear hlo
     go_wp2_with (fail)
     go_ret
     exact ⟨rfl, below_step HB21.out HBc.out⟩
    ·have hlb : decide ((i : Int) < lo) = false := decide_eq_false hlo
     have HLO2 := Lib.hid (show lo ≤ (i : Int) by omega)
     clear hlo
     have KZ := Lib.hid (blk_below Kz21.out HBc.out)
     obtain ⟨z0, z1, z2, z3, z4⟩ := cls5 KZ.out
     go_wp2_with (fail)
     refine (aword_c (Rz21.out.below HBc.out) HOz.out (HROW.out.below HBc.out) (by have h1 := HL1.out; have h3 := HM4.out; have h4 : i * v.length ≤ 4 * 5 := Nat.mul_le_mul (by omega) (by omega); rw [rowN_len]; omega)).mono ?_
     rintro e_ w28 ⟨hbb, hb⟩
     obtain rfl : e_ = .returned (.bool true) := by
      obtain ⟨b_, rfl, h⟩ := hbb
      rw [h.2 (j_rep HPT.out HLO2.out)]
     clear z0 z1 z2 z3 z4
     go_wp2_with (fail)
     go_ret
     exact ⟨rfl, below_step (below_step HB21.out HBc.out) hb⟩
end Go.Proofs.YthocjdlcopmhiaaDoor.G
