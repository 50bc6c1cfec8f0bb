import Derived.Test.YtfpedicgeepikaaProg
import Derived.Below
import Derived.Deep.Draws
import Derived.Deep.AppendLies
import Derived.Maps.AppendAt
import Derived.OwnWalk
import Derived.Laws.BytesArg
import Derived.Laws.MakeOwn
import Derived.Laws.OwnMore
import Derived.Deep.OwnRows
import Derived.Tactics
import Derived.Lib.ConvBytes
import Derived.Laws.Slices
import Derived.WalkKit
import Derived.KernelRfl
import Derived.RowKit3
import Derived.Deep.LoopGhost
import Derived.Deep.QuietTactic
import Derived.BigQuiet
import Derived.WideLaws
import Derived.Deep.DeepCutAuto
import Derived.Deep.CutBlock
import Derived.Deep.RegionHeld3
import Derived.Laws.Rows
import Derived.Lib.AppendStr
import Derived.ArgAppend
import Derived.Laws.IdiomCopy
import Derived.OrdersHeld
import Derived.Laws.BitsLemmas
import Derived.RowKit
import Derived.Test.YtfpedicgeepikaaS2
import Derived.Test.YtfpedicgeepikaaWWords
import Derived.Test.YtfpedicgeepikaaWLast
import Derived.Test.YtfpedicgeepikaaWTab
import Derived.Test.YtfpedicgeepikaaWQPut
import Derived.Test.YtfpedicgeepikaaWApart
import Derived.Test.YtfpedicgeepikaaWArr
import Derived.Test.YtfpedicgeepikaaWZeros
import Derived.Test.YtfpedicgeepikaaWFoot
import Derived.Test.YtfpedicgeepikaaWKept
import Derived.Test.YtfpedicgeepikaaWShare
import Derived.Test.YtfpedicgeepikaaWN
import Derived.Test.YtfpedicgeepikaaWRepsOne
import Derived.Test.YtfpedicgeepikaaWGuard
import Derived.Test.YtfpedicgeepikaaWNEv
import Derived.Test.YtfpedicgeepikaaWMore
import Derived.Test.YtfpedicgeepikaaG12

namespace Go.Proofs.Ytfpedicgeepikaa.G
open Go.RowKit Go.Proofs.YtfpedicgeepikaaW.PrintWords Go.Proofs.YtfpedicgeepikaaW.PrintLast Go.Proofs.YtfpedicgeepikaaW.PrintMore
attribute [local go_sem] max2_int min2_int max_two min_two max_three min_three max_four min_four
set_option linter.unusedVariables false
set_option linter.unusedSimpArgs false

set_option maxRecDepth 100000 in
set_option maxHeartbeats 8000000 in
theorem pairs_few0 (k : Nat) (h : Int) (n : ByteArray) (A : Option Addr) (c : Nat) (l : List ByteArray) (p : Int) (h' : Int) (n' : ByteArray) (A' : Option Addr) (c' : Nat) (l' : List ByteArray) (p' : Int) (s : ByteArray)  (w : World) (ka : CS w A c l) (kb : CS w A' c' l') 
    (hK_ : Pr.rubriclaw14_known.f k = some true) (hFa_ : Pr.rubriclaw14_Few.f k h n l p = some false) :
    Calls Try.prog 5 #[.agg #[.int .i64 h, .string n, .slice A l.length c, .int .i64 p], .agg #[.int .i64 h', .string n', .slice A' l'.length c', .int .i64 p'], .string s] w fun e w' => e = .returned (.bool true) ∧ Below w.heap.size w w' := by
  have HK := Lib.hid hK_; clear hK_
  have HFa := Lib.hid hFa_; clear hFa_
  have hu26 := Try.underlying26; have hu38 := Try.underlying38
  go_enter Try.func5, Try.ntmps5
  go_wp2_with (fail)
  have HB := below_alloc (below_alloc (Below.refl w.heap.size w) (.cells #[.int .i64 h, .string n, .slice A l.length c, .int .i64 p] 26)) (.cells #[.int .i64 h', .string n', .slice A' l'.length c', .int .i64 p'] 26)
  have KA : Bk ((w.alloc (.cells #[.int .i64 h, .string n, .slice A l.length c, .int .i64 p] 26)).alloc (.cells #[.int .i64 h', .string n', .slice A' l'.length c', .int .i64 p'] 26)) w.heap.size 26 h n A c l p := ⟨blk_alloc (blk_new w _) _, ka.next HB⟩
  have KB : Bk ((w.alloc (.cells #[.int .i64 h, .string n, .slice A l.length c, .int .i64 p] 26)).alloc (.cells #[.int .i64 h', .string n', .slice A' l'.length c', .int .i64 p'] 26)) (w.heap.size + 1) 26 h' n' A' c' l' p' := ⟨by have := blk_new (w.alloc (.cells #[.int .i64 h, .string n, .slice A l.length c, .int .i64 p] 26)) (.cells #[.int .i64 h', .string n', .slice A' l'.length c', .int .i64 p'] 26); simpa using this, kb.next HB⟩
  clear ka kb; generalize (w.alloc (.cells #[.int .i64 h, .string n, .slice A l.length c, .int .i64 p] 26)).alloc (.cells #[.int .i64 h', .string n', .slice A' l'.length c', .int .i64 p'] 26) = w0 at HB KA KB ⊢; replace HB := Lib.hid HB; replace KA := Lib.hid KA; replace KB := Lib.hid KB
  have HL := Lib.hid (Below.refl w0.heap.size w0)
  refine (Pr.rubriclaw14_known.calls k true _ HK.out rfl).mono ?_
  rintro e w1_ ⟨rfl, hb⟩
  replace HL := Lib.hid (below_step HL.out hb); clear hb
  obtain ⟨ca0, ca1, ca2, ca3⟩ := (KA.out.next HL.out).c4
  obtain ⟨cb0, cb1, cb2, cb3⟩ := (KB.out.next HL.out).c4
  go_wp2_with (fail)
  clear ca0 ca1 ca2 ca3 cb0 cb1 cb2 cb3
  refine (few_c k h n A c l p _ _ (KA.out.next HL.out).cs HFa.out).mono ?_
  rintro e w2_ ⟨rfl, hb⟩
  replace HL := Lib.hid (below_step HL.out hb); clear hb
  obtain ⟨ca0, ca1, ca2, ca3⟩ := (KA.out.next HL.out).c4
  obtain ⟨cb0, cb1, cb2, cb3⟩ := (KB.out.next HL.out).c4
  go_wp2
  go_ret
  exact ⟨by first | rfl | (simp; done), below_step HB.out HL.out⟩
set_option maxRecDepth 100000 in
set_option maxHeartbeats 8000000 in
theorem pairs_few1 (k : Nat) (h : Int) (n : ByteArray) (A : Option Addr) (c : Nat) (l : List ByteArray) (p : Int) (h' : Int) (n' : ByteArray) (A' : Option Addr) (c' : Nat) (l' : List ByteArray) (p' : Int) (s : ByteArray)  (w : World) (ka : CS w A c l) (kb : CS w A' c' l') 
    (hK_ : Pr.rubriclaw14_known.f k = some true) (hFa_ : Pr.rubriclaw14_Few.f k h n l p = some true) (hFb_ : Pr.rubriclaw14_Few.f k h' n' l' p' = some false) :
    Calls Try.prog 5 #[.agg #[.int .i64 h, .string n, .slice A l.length c, .int .i64 p], .agg #[.int .i64 h', .string n', .slice A' l'.length c', .int .i64 p'], .string s] w fun e w' => e = .returned (.bool true) ∧ Below w.heap.size w w' := by
  have HK := Lib.hid hK_; clear hK_
  have HFa := Lib.hid hFa_; clear hFa_
  have HFb := Lib.hid hFb_; clear hFb_
  have hu26 := Try.underlying26; have hu38 := Try.underlying38
  go_enter Try.func5, Try.ntmps5
  go_wp2_with (fail)
  have HB := below_alloc (below_alloc (Below.refl w.heap.size w) (.cells #[.int .i64 h, .string n, .slice A l.length c, .int .i64 p] 26)) (.cells #[.int .i64 h', .string n', .slice A' l'.length c', .int .i64 p'] 26)
  have KA : Bk ((w.alloc (.cells #[.int .i64 h, .string n, .slice A l.length c, .int .i64 p] 26)).alloc (.cells #[.int .i64 h', .string n', .slice A' l'.length c', .int .i64 p'] 26)) w.heap.size 26 h n A c l p := ⟨blk_alloc (blk_new w _) _, ka.next HB⟩
  have KB : Bk ((w.alloc (.cells #[.int .i64 h, .string n, .slice A l.length c, .int .i64 p] 26)).alloc (.cells #[.int .i64 h', .string n', .slice A' l'.length c', .int .i64 p'] 26)) (w.heap.size + 1) 26 h' n' A' c' l' p' := ⟨by have := blk_new (w.alloc (.cells #[.int .i64 h, .string n, .slice A l.length c, .int .i64 p] 26)) (.cells #[.int .i64 h', .string n', .slice A' l'.length c', .int .i64 p'] 26); simpa using this, kb.next HB⟩
  clear ka kb; generalize (w.alloc (.cells #[.int .i64 h, .string n, .slice A l.length c, .int .i64 p] 26)).alloc (.cells #[.int .i64 h', .string n', .slice A' l'.length c', .int .i64 p'] 26) = w0 at HB KA KB ⊢; replace HB := Lib.hid HB; replace KA := Lib.hid KA; replace KB := Lib.hid KB
  have HL := Lib.hid (Below.refl w0.heap.size w0)
  refine (Pr.rubriclaw14_known.calls k true _ HK.out rfl).mono ?_
  rintro e w3_ ⟨rfl, hb⟩
  replace HL := Lib.hid (below_step HL.out hb); clear hb
  obtain ⟨ca0, ca1, ca2, ca3⟩ := (KA.out.next HL.out).c4
  obtain ⟨cb0, cb1, cb2, cb3⟩ := (KB.out.next HL.out).c4
  go_wp2_with (fail)
  clear ca0 ca1 ca2 ca3 cb0 cb1 cb2 cb3
  refine (few_c k h n A c l p _ _ (KA.out.next HL.out).cs HFa.out).mono ?_
  rintro e w4_ ⟨rfl, hb⟩
  replace HL := Lib.hid (below_step HL.out hb); clear hb
  obtain ⟨ca0, ca1, ca2, ca3⟩ := (KA.out.next HL.out).c4
  obtain ⟨cb0, cb1, cb2, cb3⟩ := (KB.out.next HL.out).c4
  go_wp2_with (fail)
  clear ca0 ca1 ca2 ca3 cb0 cb1 cb2 cb3
  refine (few_c k h' n' A' c' l' p' _ _ (KB.out.next HL.out).cs HFb.out).mono ?_
  rintro e w5_ ⟨rfl, hb⟩
  replace HL := Lib.hid (below_step HL.out hb); clear hb
  obtain ⟨ca0, ca1, ca2, ca3⟩ := (KA.out.next HL.out).c4
  obtain ⟨cb0, cb1, cb2, cb3⟩ := (KB.out.next HL.out).c4
  go_wp2
  go_ret
  exact ⟨by first | rfl | (simp; done), below_step HB.out HL.out⟩
set_option maxRecDepth 100000 in
set_option maxHeartbeats 8000000 in
theorem pairs_long (k : Nat) (h : Int) (n : ByteArray) (A : Option Addr) (c : Nat) (l : List ByteArray) (p : Int) (h' : Int) (n' : ByteArray) (A' : Option Addr) (c' : Nat) (l' : List ByteArray) (p' : Int) (s : ByteArray)  (w : World) (ka : CS w A c l) (kb : CS w A' c' l') (hs1 : decide (300 < s.size) = true) (hs2 : decide (300 < (s.size : Int)) = true)
    (hK_ : Pr.rubriclaw14_known.f k = some true) (hFa_ : Pr.rubriclaw14_Few.f k h n l p = some true) (hFb_ : Pr.rubriclaw14_Few.f k h' n' l' p' = some true) :
    Calls Try.prog 5 #[.agg #[.int .i64 h, .string n, .slice A l.length c, .int .i64 p], .agg #[.int .i64 h', .string n', .slice A' l'.length c', .int .i64 p'], .string s] w fun e w' => e = .returned (.bool true) ∧ Below w.heap.size w w' := by
  have HK := Lib.hid hK_; clear hK_
  have HFa := Lib.hid hFa_; clear hFa_
  have HFb := Lib.hid hFb_; clear hFb_
  have hu26 := Try.underlying26; have hu38 := Try.underlying38
  go_enter Try.func5, Try.ntmps5
  go_wp2_with (fail)
  have HB := below_alloc (below_alloc (Below.refl w.heap.size w) (.cells #[.int .i64 h, .string n, .slice A l.length c, .int .i64 p] 26)) (.cells #[.int .i64 h', .string n', .slice A' l'.length c', .int .i64 p'] 26)
  have KA : Bk ((w.alloc (.cells #[.int .i64 h, .string n, .slice A l.length c, .int .i64 p] 26)).alloc (.cells #[.int .i64 h', .string n', .slice A' l'.length c', .int .i64 p'] 26)) w.heap.size 26 h n A c l p := ⟨blk_alloc (blk_new w _) _, ka.next HB⟩
  have KB : Bk ((w.alloc (.cells #[.int .i64 h, .string n, .slice A l.length c, .int .i64 p] 26)).alloc (.cells #[.int .i64 h', .string n', .slice A' l'.length c', .int .i64 p'] 26)) (w.heap.size + 1) 26 h' n' A' c' l' p' := ⟨by have := blk_new (w.alloc (.cells #[.int .i64 h, .string n, .slice A l.length c, .int .i64 p] 26)) (.cells #[.int .i64 h', .string n', .slice A' l'.length c', .int .i64 p'] 26); simpa using this, kb.next HB⟩
  clear ka kb; generalize (w.alloc (.cells #[.int .i64 h, .string n, .slice A l.length c, .int .i64 p] 26)).alloc (.cells #[.int .i64 h', .string n', .slice A' l'.length c', .int .i64 p'] 26) = w0 at HB KA KB ⊢; replace HB := Lib.hid HB; replace KA := Lib.hid KA; replace KB := Lib.hid KB
  have HL := Lib.hid (Below.refl w0.heap.size w0)
  refine (Pr.rubriclaw14_known.calls k true _ HK.out rfl).mono ?_
  rintro e w6_ ⟨rfl, hb⟩
  replace HL := Lib.hid (below_step HL.out hb); clear hb
  obtain ⟨ca0, ca1, ca2, ca3⟩ := (KA.out.next HL.out).c4
  obtain ⟨cb0, cb1, cb2, cb3⟩ := (KB.out.next HL.out).c4
  go_wp2_with (fail)
  clear ca0 ca1 ca2 ca3 cb0 cb1 cb2 cb3
  refine (few_c k h n A c l p _ _ (KA.out.next HL.out).cs HFa.out).mono ?_
  rintro e w7_ ⟨rfl, hb⟩
  replace HL := Lib.hid (below_step HL.out hb); clear hb
  obtain ⟨ca0, ca1, ca2, ca3⟩ := (KA.out.next HL.out).c4
  obtain ⟨cb0, cb1, cb2, cb3⟩ := (KB.out.next HL.out).c4
  go_wp2_with (fail)
  clear ca0 ca1 ca2 ca3 cb0 cb1 cb2 cb3
  refine (few_c k h' n' A' c' l' p' _ _ (KB.out.next HL.out).cs HFb.out).mono ?_
  rintro e w8_ ⟨rfl, hb⟩
  replace HL := Lib.hid (below_step HL.out hb); clear hb
  obtain ⟨ca0, ca1, ca2, ca3⟩ := (KA.out.next HL.out).c4
  obtain ⟨cb0, cb1, cb2, cb3⟩ := (KB.out.next HL.out).c4
  go_wp2
  go_ret
  exact ⟨by first | rfl | (simp; done), below_step HB.out HL.out⟩
set_option maxRecDepth 100000 in
set_option maxHeartbeats 8000000 in
theorem pairs_right0 (k : Nat) (h : Int) (n : ByteArray) (A : Option Addr) (c : Nat) (l : List ByteArray) (p : Int) (h' : Int) (n' : ByteArray) (A' : Option Addr) (c' : Nat) (l' : List ByteArray) (p' : Int) (s : ByteArray) (rb : Bool) (w : World) (ka : CS w A c l) (kb : CS w A' c' l') (hs1 : decide (300 < s.size) = false) (hs2 : decide (300 < (s.size : Int)) = false)
    (hK_ : Pr.rubriclaw14_known.f k = some true) (hFa_ : Pr.rubriclaw14_Few.f k h n l p = some true) (hFb_ : Pr.rubriclaw14_Few.f k h' n' l' p' = some true) (hRa_ : Pr.wild_Right.f k h n l p = some false) (hQa_ : Pr.rubricref14_Right.f k h n l p = some false) (hRb_ : Pr.wild_Right.f k h' n' l' p' = some rb) (hQb_ : Pr.rubricref14_Right.f k h' n' l' p' = some rb) :
    Calls Try.prog 5 #[.agg #[.int .i64 h, .string n, .slice A l.length c, .int .i64 p], .agg #[.int .i64 h', .string n', .slice A' l'.length c', .int .i64 p'], .string s] w fun e w' => e = .returned (.bool true) ∧ Below w.heap.size w w' := by
  have HK := Lib.hid hK_; clear hK_
  have HFa := Lib.hid hFa_; clear hFa_
  have HFb := Lib.hid hFb_; clear hFb_
  have HRa := Lib.hid hRa_; clear hRa_
  have HQa := Lib.hid hQa_; clear hQa_
  have HRb := Lib.hid hRb_; clear hRb_
  have HQb := Lib.hid hQb_; clear hQb_
  have hrb : (rb != rb) = false := by simp
  have hu26 := Try.underlying26; have hu38 := Try.underlying38
  go_enter Try.func5, Try.ntmps5
  go_wp2_with (fail)
  have HB := below_alloc (below_alloc (Below.refl w.heap.size w) (.cells #[.int .i64 h, .string n, .slice A l.length c, .int .i64 p] 26)) (.cells #[.int .i64 h', .string n', .slice A' l'.length c', .int .i64 p'] 26)
  have KA : Bk ((w.alloc (.cells #[.int .i64 h, .string n, .slice A l.length c, .int .i64 p] 26)).alloc (.cells #[.int .i64 h', .string n', .slice A' l'.length c', .int .i64 p'] 26)) w.heap.size 26 h n A c l p := ⟨blk_alloc (blk_new w _) _, ka.next HB⟩
  have KB : Bk ((w.alloc (.cells #[.int .i64 h, .string n, .slice A l.length c, .int .i64 p] 26)).alloc (.cells #[.int .i64 h', .string n', .slice A' l'.length c', .int .i64 p'] 26)) (w.heap.size + 1) 26 h' n' A' c' l' p' := ⟨by have := blk_new (w.alloc (.cells #[.int .i64 h, .string n, .slice A l.length c, .int .i64 p] 26)) (.cells #[.int .i64 h', .string n', .slice A' l'.length c', .int .i64 p'] 26); simpa using this, kb.next HB⟩
  clear ka kb; generalize (w.alloc (.cells #[.int .i64 h, .string n, .slice A l.length c, .int .i64 p] 26)).alloc (.cells #[.int .i64 h', .string n', .slice A' l'.length c', .int .i64 p'] 26) = w0 at HB KA KB ⊢; replace HB := Lib.hid HB; replace KA := Lib.hid KA; replace KB := Lib.hid KB
  have HL := Lib.hid (Below.refl w0.heap.size w0)
  refine (Pr.rubriclaw14_known.calls k true _ HK.out rfl).mono ?_
  rintro e w9_ ⟨rfl, hb⟩
  replace HL := Lib.hid (below_step HL.out hb); clear hb
  obtain ⟨ca0, ca1, ca2, ca3⟩ := (KA.out.next HL.out).c4
  obtain ⟨cb0, cb1, cb2, cb3⟩ := (KB.out.next HL.out).c4
  go_wp2_with (fail)
  clear ca0 ca1 ca2 ca3 cb0 cb1 cb2 cb3
  refine (few_c k h n A c l p _ _ (KA.out.next HL.out).cs HFa.out).mono ?_
  rintro e w10_ ⟨rfl, hb⟩
  replace HL := Lib.hid (below_step HL.out hb); clear hb
  obtain ⟨ca0, ca1, ca2, ca3⟩ := (KA.out.next HL.out).c4
  obtain ⟨cb0, cb1, cb2, cb3⟩ := (KB.out.next HL.out).c4
  go_wp2_with (fail)
  clear ca0 ca1 ca2 ca3 cb0 cb1 cb2 cb3
  refine (few_c k h' n' A' c' l' p' _ _ (KB.out.next HL.out).cs HFb.out).mono ?_
  rintro e w11_ ⟨rfl, hb⟩
  replace HL := Lib.hid (below_step HL.out hb); clear hb
  obtain ⟨ca0, ca1, ca2, ca3⟩ := (KA.out.next HL.out).c4
  obtain ⟨cb0, cb1, cb2, cb3⟩ := (KB.out.next HL.out).c4
  go_wp2_with (fail)
  clear ca0 ca1 ca2 ca3 cb0 cb1 cb2 cb3
  replace KA := Lib.hid (KA.out.next HL.out)
  replace KB := Lib.hid (KB.out.next HL.out)
  replace HB := Lib.hid (below_step HB.out HL.out); clear HL
  replace KA := Lib.hid (KA.out.next (below_drew1 (Below.refl w11_.heap.size w11_)))
  replace KB := Lib.hid (KB.out.next (below_drew1 (Below.refl w11_.heap.size w11_)))
  replace HB := Lib.hid (below_drew1 HB.out)
  refine start_ (n := 14) (S := fun w' => C4 w' w.heap.size (.int .i64 h) (.string n) (.slice A l.length c) (.int .i64 p) ∧ C4 w' (w.heap.size + 1) (.int .i64 h') (.string n') (.slice A' l'.length c') (.int .i64 p')) (ds := []) (S.um 14 0) (by kernel_rfl) rfl rfl ⟨KA.out.c4, KB.out.c4⟩ (fun hHeld => ?_); refine with_tabW wptab5 wpbits5 (fun HT_ HW_ => ?_)
  generalize w11_.drew = w12_ at HB KA KB hHeld ⊢
  have HL := Lib.hid (Below.refl w12_.heap.size w12_)
  refine S.t 14 0 30 1 HT_.out HW_.out rfl rfl hHeld ?_
  refine S.t 14 2 32 5 HT_.out HW_.out rfl rfl hHeld ?_
  refine S.o 14 1 31 7 HT_.out rfl rfl (fun K hK => ?_)
  refine S.g Try.func11 #[.agg #[.int .i64 h, .string n, .slice A l.length c, .int .i64 p]] rfl rfl ?_; (with_reducible refine (right_c k h n A c l p _ _ (KA.out.next HL.out).cs HRa.out).mono ?_); rintro e w13_ ⟨rfl, hb⟩; refine ⟨_, rfl, ?_⟩
  replace HL := Lib.hid (below_step HL.out hb); clear hb
  refine hK.out _ _ ⟨(KA.out.next HL.out).c4, (KB.out.next HL.out).c4⟩ (fun hHeld => ?_); clear hK K; refine S.w 31 ?_
  refine S.o 14 3 33 15 HT_.out rfl rfl (fun K hK => ?_)
  refine S.g Try.func15 #[.agg #[.int .i64 h, .string n, .slice A l.length c, .int .i64 p]] rfl rfl ?_; (with_reducible refine (of_c h n A c l p _ (KA.out.next HL.out).cs).mono ?_); rintro e w14_ ⟨Aa1, ca1, rfl, Ha10, hb⟩; refine ⟨_, rfl, ?_⟩
  replace HL := Lib.hid (below_step HL.out hb); clear hb
  have Ha1 := Lib.hid Ha10; clear Ha10
  refine hK.out _ _ ⟨(KA.out.next HL.out).c4, (KB.out.next HL.out).c4⟩ (fun hHeld => ?_); clear hK K; refine S.w 33 ?_
  refine S.o 14 4 34 31 HT_.out rfl rfl (fun K hK => ?_)
  refine S.g Try.func14 #[.agg #[.int .i64 h, .string n, .slice Aa1 l.length ca1, .int .i64 p]] rfl rfl ?_; (with_reducible refine (rright_c k h n Aa1 ca1 l p _ _ Ha1.out HQa.out).mono ?_); rintro e w15_ ⟨rfl, hb⟩; refine ⟨_, rfl, ?_⟩
  replace Ha1 := Lib.hid (Ha1.out.next hb)
  replace HL := Lib.hid (below_step HL.out hb); clear hb
  clear Ha1
  refine hK.out _ _ ⟨(KA.out.next HL.out).c4, (KB.out.next HL.out).c4⟩ (fun hHeld => ?_); clear hK K; refine S.w 34 ?_
  refine S.p 14 5 35 63 HT_.out rfl rfl ?_
  refine S.p 14 6 36 127 HT_.out rfl rfl ?_
  refine S.t 14 7 37 255 HT_.out HW_.out rfl rfl hHeld ?_
  refine S.t 14 9 39 767 HT_.out HW_.out rfl rfl hHeld ?_
  refine S.o 14 8 38 1023 HT_.out rfl rfl (fun K hK => ?_)
  refine S.g Try.func11 #[.agg #[.int .i64 h', .string n', .slice A' l'.length c', .int .i64 p']] rfl rfl ?_; (with_reducible refine (right_c k h' n' A' c' l' p' _ _ (KB.out.next HL.out).cs HRb.out).mono ?_); rintro e w16_ ⟨rfl, hb⟩; refine ⟨_, rfl, ?_⟩
  replace HL := Lib.hid (below_step HL.out hb); clear hb
  refine hK.out _ _ ⟨(KA.out.next HL.out).c4, (KB.out.next HL.out).c4⟩ (fun hHeld => ?_); clear hK K; refine S.w 38 ?_
  refine S.o 14 10 40 2047 HT_.out rfl rfl (fun K hK => ?_)
  refine S.g Try.func15 #[.agg #[.int .i64 h', .string n', .slice A' l'.length c', .int .i64 p']] rfl rfl ?_; (with_reducible refine (of_c h' n' A' c' l' p' _ (KB.out.next HL.out).cs).mono ?_); rintro e w17_ ⟨Ab2, cb2, rfl, Hb20, hb⟩; refine ⟨_, rfl, ?_⟩
  replace HL := Lib.hid (below_step HL.out hb); clear hb
  have Hb2 := Lib.hid Hb20; clear Hb20
  refine hK.out _ _ ⟨(KA.out.next HL.out).c4, (KB.out.next HL.out).c4⟩ (fun hHeld => ?_); clear hK K; refine S.w 40 ?_
  refine S.o 14 11 41 4095 HT_.out rfl rfl (fun K hK => ?_)
  refine S.g Try.func14 #[.agg #[.int .i64 h', .string n', .slice Ab2 l'.length cb2, .int .i64 p']] rfl rfl ?_; (with_reducible refine (rright_c k h' n' Ab2 cb2 l' p' _ _ Hb2.out HQb.out).mono ?_); rintro e w18_ ⟨rfl, hb⟩; refine ⟨_, rfl, ?_⟩
  replace Hb2 := Lib.hid (Hb2.out.next hb)
  replace HL := Lib.hid (below_step HL.out hb); clear hb
  clear Hb2
  refine hK.out _ _ ⟨(KA.out.next HL.out).c4, (KB.out.next HL.out).c4⟩ (fun hHeld => ?_); clear hK K; refine S.w 41 ?_
  refine S.p 14 12 42 8191 HT_.out rfl rfl ?_
  refine S.p 14 13 43 16383 HT_.out rfl rfl ?_
  refine done_ (done_of HT_.out (by kernel_rfl)) ?_; clear HT_ HW_ hHeld
  replace KA := Lib.hid (KA.out.next HL.out)
  replace KB := Lib.hid (KB.out.next HL.out)
  replace HB := Lib.hid (below_step HB.out HL.out); clear HL
  have HL := Lib.hid (Below.refl w18_.heap.size w18_)
  obtain ⟨ca0, ca1, ca2, ca3⟩ := (KA.out.next HL.out).c4
  obtain ⟨cb0, cb1, cb2, cb3⟩ := (KB.out.next HL.out).c4
  go_wp2_with (fail)
  clear ca0 ca1 ca2 ca3 cb0 cb1 cb2 cb3
  refine (of_c h n A c l p _ (KA.out.next HL.out).cs).mono ?_
  rintro e w19_ ⟨Aa3, ca3, rfl, Ha30, hb⟩
  replace HL := Lib.hid (below_step HL.out hb); clear hb
  have Ha3 := Lib.hid Ha30; clear Ha30
  obtain ⟨ca0, ca1, ca2, ca3⟩ := (KA.out.next HL.out).c4
  obtain ⟨cb0, cb1, cb2, cb3⟩ := (KB.out.next HL.out).c4
  go_wp2_with (fail)
  clear ca0 ca1 ca2 ca3 cb0 cb1 cb2 cb3
  refine (rright_c k h n Aa3 ca3 l p _ _ Ha3.out HQa.out).mono ?_
  rintro e w20_ ⟨rfl, hb⟩
  replace Ha3 := Lib.hid (Ha3.out.next hb)
  replace HL := Lib.hid (below_step HL.out hb); clear hb
  clear Ha3
  obtain ⟨ca0, ca1, ca2, ca3⟩ := (KA.out.next HL.out).c4
  obtain ⟨cb0, cb1, cb2, cb3⟩ := (KB.out.next HL.out).c4
  go_wp2
  go_ret
  exact ⟨by first | rfl | (simp; done), below_step HB.out HL.out⟩
set_option maxRecDepth 100000 in
set_option maxHeartbeats 8000000 in
theorem pairs_right1 (k : Nat) (h : Int) (n : ByteArray) (A : Option Addr) (c : Nat) (l : List ByteArray) (p : Int) (h' : Int) (n' : ByteArray) (A' : Option Addr) (c' : Nat) (l' : List ByteArray) (p' : Int) (s : ByteArray)  (w : World) (ka : CS w A c l) (kb : CS w A' c' l') (hs1 : decide (300 < s.size) = false) (hs2 : decide (300 < (s.size : Int)) = false)
    (hK_ : Pr.rubriclaw14_known.f k = some true) (hFa_ : Pr.rubriclaw14_Few.f k h n l p = some true) (hFb_ : Pr.rubriclaw14_Few.f k h' n' l' p' = some true) (hRa_ : Pr.wild_Right.f k h n l p = some true) (hQa_ : Pr.rubricref14_Right.f k h n l p = some true) (hRb_ : Pr.wild_Right.f k h' n' l' p' = some false) (hQb_ : Pr.rubricref14_Right.f k h' n' l' p' = some false) :
    Calls Try.prog 5 #[.agg #[.int .i64 h, .string n, .slice A l.length c, .int .i64 p], .agg #[.int .i64 h', .string n', .slice A' l'.length c', .int .i64 p'], .string s] w fun e w' => e = .returned (.bool true) ∧ Below w.heap.size w w' := by
  have HK := Lib.hid hK_; clear hK_
  have HFa := Lib.hid hFa_; clear hFa_
  have HFb := Lib.hid hFb_; clear hFb_
  have HRa := Lib.hid hRa_; clear hRa_
  have HQa := Lib.hid hQa_; clear hQa_
  have HRb := Lib.hid hRb_; clear hRb_
  have HQb := Lib.hid hQb_; clear hQb_
  have hu26 := Try.underlying26; have hu38 := Try.underlying38
  go_enter Try.func5, Try.ntmps5
  go_wp2_with (fail)
  have HB := below_alloc (below_alloc (Below.refl w.heap.size w) (.cells #[.int .i64 h, .string n, .slice A l.length c, .int .i64 p] 26)) (.cells #[.int .i64 h', .string n', .slice A' l'.length c', .int .i64 p'] 26)
  have KA : Bk ((w.alloc (.cells #[.int .i64 h, .string n, .slice A l.length c, .int .i64 p] 26)).alloc (.cells #[.int .i64 h', .string n', .slice A' l'.length c', .int .i64 p'] 26)) w.heap.size 26 h n A c l p := ⟨blk_alloc (blk_new w _) _, ka.next HB⟩
  have KB : Bk ((w.alloc (.cells #[.int .i64 h, .string n, .slice A l.length c, .int .i64 p] 26)).alloc (.cells #[.int .i64 h', .string n', .slice A' l'.length c', .int .i64 p'] 26)) (w.heap.size + 1) 26 h' n' A' c' l' p' := ⟨by have := blk_new (w.alloc (.cells #[.int .i64 h, .string n, .slice A l.length c, .int .i64 p] 26)) (.cells #[.int .i64 h', .string n', .slice A' l'.length c', .int .i64 p'] 26); simpa using this, kb.next HB⟩
  clear ka kb; generalize (w.alloc (.cells #[.int .i64 h, .string n, .slice A l.length c, .int .i64 p] 26)).alloc (.cells #[.int .i64 h', .string n', .slice A' l'.length c', .int .i64 p'] 26) = w0 at HB KA KB ⊢; replace HB := Lib.hid HB; replace KA := Lib.hid KA; replace KB := Lib.hid KB
  have HL := Lib.hid (Below.refl w0.heap.size w0)
  refine (Pr.rubriclaw14_known.calls k true _ HK.out rfl).mono ?_
  rintro e w21_ ⟨rfl, hb⟩
  replace HL := Lib.hid (below_step HL.out hb); clear hb
  obtain ⟨ca0, ca1, ca2, ca3⟩ := (KA.out.next HL.out).c4
  obtain ⟨cb0, cb1, cb2, cb3⟩ := (KB.out.next HL.out).c4
  go_wp2_with (fail)
  clear ca0 ca1 ca2 ca3 cb0 cb1 cb2 cb3
  refine (few_c k h n A c l p _ _ (KA.out.next HL.out).cs HFa.out).mono ?_
  rintro e w22_ ⟨rfl, hb⟩
  replace HL := Lib.hid (below_step HL.out hb); clear hb
  obtain ⟨ca0, ca1, ca2, ca3⟩ := (KA.out.next HL.out).c4
  obtain ⟨cb0, cb1, cb2, cb3⟩ := (KB.out.next HL.out).c4
  go_wp2_with (fail)
  clear ca0 ca1 ca2 ca3 cb0 cb1 cb2 cb3
  refine (few_c k h' n' A' c' l' p' _ _ (KB.out.next HL.out).cs HFb.out).mono ?_
  rintro e w23_ ⟨rfl, hb⟩
  replace HL := Lib.hid (below_step HL.out hb); clear hb
  obtain ⟨ca0, ca1, ca2, ca3⟩ := (KA.out.next HL.out).c4
  obtain ⟨cb0, cb1, cb2, cb3⟩ := (KB.out.next HL.out).c4
  go_wp2_with (fail)
  clear ca0 ca1 ca2 ca3 cb0 cb1 cb2 cb3
  replace KA := Lib.hid (KA.out.next HL.out)
  replace KB := Lib.hid (KB.out.next HL.out)
  replace HB := Lib.hid (below_step HB.out HL.out); clear HL
  replace KA := Lib.hid (KA.out.next (below_drew1 (Below.refl w23_.heap.size w23_)))
  replace KB := Lib.hid (KB.out.next (below_drew1 (Below.refl w23_.heap.size w23_)))
  replace HB := Lib.hid (below_drew1 HB.out)
  refine start_ (n := 14) (S := fun w' => C4 w' w.heap.size (.int .i64 h) (.string n) (.slice A l.length c) (.int .i64 p) ∧ C4 w' (w.heap.size + 1) (.int .i64 h') (.string n') (.slice A' l'.length c') (.int .i64 p')) (ds := []) (S.um 14 0) (by kernel_rfl) rfl rfl ⟨KA.out.c4, KB.out.c4⟩ (fun hHeld => ?_); refine with_tabW wptab5 wpbits5 (fun HT_ HW_ => ?_)
  generalize w23_.drew = w24_ at HB KA KB hHeld ⊢
  have HL := Lib.hid (Below.refl w24_.heap.size w24_)
  refine S.t 14 0 30 1 HT_.out HW_.out rfl rfl hHeld ?_
  refine S.t 14 2 32 5 HT_.out HW_.out rfl rfl hHeld ?_
  refine S.o 14 1 31 7 HT_.out rfl rfl (fun K hK => ?_)
  refine S.g Try.func11 #[.agg #[.int .i64 h, .string n, .slice A l.length c, .int .i64 p]] rfl rfl ?_; (with_reducible refine (right_c k h n A c l p _ _ (KA.out.next HL.out).cs HRa.out).mono ?_); rintro e w25_ ⟨rfl, hb⟩; refine ⟨_, rfl, ?_⟩
  replace HL := Lib.hid (below_step HL.out hb); clear hb
  refine hK.out _ _ ⟨(KA.out.next HL.out).c4, (KB.out.next HL.out).c4⟩ (fun hHeld => ?_); clear hK K; refine S.w 31 ?_
  refine S.o 14 3 33 15 HT_.out rfl rfl (fun K hK => ?_)
  refine S.g Try.func15 #[.agg #[.int .i64 h, .string n, .slice A l.length c, .int .i64 p]] rfl rfl ?_; (with_reducible refine (of_c h n A c l p _ (KA.out.next HL.out).cs).mono ?_); rintro e w26_ ⟨Aa1, ca1, rfl, Ha10, hb⟩; refine ⟨_, rfl, ?_⟩
  replace HL := Lib.hid (below_step HL.out hb); clear hb
  have Ha1 := Lib.hid Ha10; clear Ha10
  refine hK.out _ _ ⟨(KA.out.next HL.out).c4, (KB.out.next HL.out).c4⟩ (fun hHeld => ?_); clear hK K; refine S.w 33 ?_
  refine S.o 14 4 34 31 HT_.out rfl rfl (fun K hK => ?_)
  refine S.g Try.func14 #[.agg #[.int .i64 h, .string n, .slice Aa1 l.length ca1, .int .i64 p]] rfl rfl ?_; (with_reducible refine (rright_c k h n Aa1 ca1 l p _ _ Ha1.out HQa.out).mono ?_); rintro e w27_ ⟨rfl, hb⟩; refine ⟨_, rfl, ?_⟩
  replace Ha1 := Lib.hid (Ha1.out.next hb)
  replace HL := Lib.hid (below_step HL.out hb); clear hb
  clear Ha1
  refine hK.out _ _ ⟨(KA.out.next HL.out).c4, (KB.out.next HL.out).c4⟩ (fun hHeld => ?_); clear hK K; refine S.w 34 ?_
  refine S.p 14 5 35 63 HT_.out rfl rfl ?_
  refine S.p 14 6 36 127 HT_.out rfl rfl ?_
  refine S.t 14 7 37 255 HT_.out HW_.out rfl rfl hHeld ?_
  refine S.t 14 9 39 767 HT_.out HW_.out rfl rfl hHeld ?_
  refine S.o 14 8 38 1023 HT_.out rfl rfl (fun K hK => ?_)
  refine S.g Try.func11 #[.agg #[.int .i64 h', .string n', .slice A' l'.length c', .int .i64 p']] rfl rfl ?_; (with_reducible refine (right_c k h' n' A' c' l' p' _ _ (KB.out.next HL.out).cs HRb.out).mono ?_); rintro e w28_ ⟨rfl, hb⟩; refine ⟨_, rfl, ?_⟩
  replace HL := Lib.hid (below_step HL.out hb); clear hb
  refine hK.out _ _ ⟨(KA.out.next HL.out).c4, (KB.out.next HL.out).c4⟩ (fun hHeld => ?_); clear hK K; refine S.w 38 ?_
  refine S.o 14 10 40 2047 HT_.out rfl rfl (fun K hK => ?_)
  refine S.g Try.func15 #[.agg #[.int .i64 h', .string n', .slice A' l'.length c', .int .i64 p']] rfl rfl ?_; (with_reducible refine (of_c h' n' A' c' l' p' _ (KB.out.next HL.out).cs).mono ?_); rintro e w29_ ⟨Ab2, cb2, rfl, Hb20, hb⟩; refine ⟨_, rfl, ?_⟩
  replace HL := Lib.hid (below_step HL.out hb); clear hb
  have Hb2 := Lib.hid Hb20; clear Hb20
  refine hK.out _ _ ⟨(KA.out.next HL.out).c4, (KB.out.next HL.out).c4⟩ (fun hHeld => ?_); clear hK K; refine S.w 40 ?_
  refine S.o 14 11 41 4095 HT_.out rfl rfl (fun K hK => ?_)
  refine S.g Try.func14 #[.agg #[.int .i64 h', .string n', .slice Ab2 l'.length cb2, .int .i64 p']] rfl rfl ?_; (with_reducible refine (rright_c k h' n' Ab2 cb2 l' p' _ _ Hb2.out HQb.out).mono ?_); rintro e w30_ ⟨rfl, hb⟩; refine ⟨_, rfl, ?_⟩
  replace Hb2 := Lib.hid (Hb2.out.next hb)
  replace HL := Lib.hid (below_step HL.out hb); clear hb
  clear Hb2
  refine hK.out _ _ ⟨(KA.out.next HL.out).c4, (KB.out.next HL.out).c4⟩ (fun hHeld => ?_); clear hK K; refine S.w 41 ?_
  refine S.p 14 12 42 8191 HT_.out rfl rfl ?_
  refine S.p 14 13 43 16383 HT_.out rfl rfl ?_
  refine done_ (done_of HT_.out (by kernel_rfl)) ?_; clear HT_ HW_ hHeld
  replace KA := Lib.hid (KA.out.next HL.out)
  replace KB := Lib.hid (KB.out.next HL.out)
  replace HB := Lib.hid (below_step HB.out HL.out); clear HL
  have HL := Lib.hid (Below.refl w30_.heap.size w30_)
  obtain ⟨ca0, ca1, ca2, ca3⟩ := (KA.out.next HL.out).c4
  obtain ⟨cb0, cb1, cb2, cb3⟩ := (KB.out.next HL.out).c4
  go_wp2_with (fail)
  clear ca0 ca1 ca2 ca3 cb0 cb1 cb2 cb3
  refine (of_c h n A c l p _ (KA.out.next HL.out).cs).mono ?_
  rintro e w31_ ⟨Aa3, ca3, rfl, Ha30, hb⟩
  replace HL := Lib.hid (below_step HL.out hb); clear hb
  have Ha3 := Lib.hid Ha30; clear Ha30
  obtain ⟨ca0, ca1, ca2, ca3⟩ := (KA.out.next HL.out).c4
  obtain ⟨cb0, cb1, cb2, cb3⟩ := (KB.out.next HL.out).c4
  go_wp2_with (fail)
  clear ca0 ca1 ca2 ca3 cb0 cb1 cb2 cb3
  refine (rright_c k h n Aa3 ca3 l p _ _ Ha3.out HQa.out).mono ?_
  rintro e w32_ ⟨rfl, hb⟩
  replace Ha3 := Lib.hid (Ha3.out.next hb)
  replace HL := Lib.hid (below_step HL.out hb); clear hb
  clear Ha3
  obtain ⟨ca0, ca1, ca2, ca3⟩ := (KA.out.next HL.out).c4
  obtain ⟨cb0, cb1, cb2, cb3⟩ := (KB.out.next HL.out).c4
  go_wp2_with (fail)
  clear ca0 ca1 ca2 ca3 cb0 cb1 cb2 cb3
  refine (of_c h' n' A' c' l' p' _ (KB.out.next HL.out).cs).mono ?_
  rintro e w33_ ⟨Ab4, cb4, rfl, Hb40, hb⟩
  replace HL := Lib.hid (below_step HL.out hb); clear hb
  have Hb4 := Lib.hid Hb40; clear Hb40
  obtain ⟨ca0, ca1, ca2, ca3⟩ := (KA.out.next HL.out).c4
  obtain ⟨cb0, cb1, cb2, cb3⟩ := (KB.out.next HL.out).c4
  go_wp2_with (fail)
  clear ca0 ca1 ca2 ca3 cb0 cb1 cb2 cb3
  refine (rright_c k h' n' Ab4 cb4 l' p' _ _ Hb4.out HQb.out).mono ?_
  rintro e w34_ ⟨rfl, hb⟩
  replace Hb4 := Lib.hid (Hb4.out.next hb)
  replace HL := Lib.hid (below_step HL.out hb); clear hb
  clear Hb4
  obtain ⟨ca0, ca1, ca2, ca3⟩ := (KA.out.next HL.out).c4
  obtain ⟨cb0, cb1, cb2, cb3⟩ := (KB.out.next HL.out).c4
  go_wp2
  go_ret
  exact ⟨by first | rfl | (simp; done), below_step HB.out HL.out⟩

end Go.Proofs.Ytfpedicgeepikaa.G
