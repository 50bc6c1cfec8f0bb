import Derived.Test.YtfpedicgeepikaaProg
import Derived.Below
import Derived.Deep.Draws
import Derived.Deep.AppendLies
import Derived.Maps.AppendAt
import Derived.OwnWalk
import Derived.Laws.BytesArg
import Derived.Laws.MakeOwn
import Derived.Laws.OwnMore
import Derived.Deep.OwnRows
import Derived.Tactics
import Derived.Lib.ConvBytes
import Derived.Laws.Slices
import Derived.WalkKit
import Derived.KernelRfl
import Derived.RowKit3
import Derived.Deep.LoopGhost
import Derived.Deep.QuietTactic
import Derived.BigQuiet
import Derived.WideLaws
import Derived.Deep.DeepCutAuto
import Derived.Deep.CutBlock
import Derived.Deep.RegionHeld3
import Derived.Laws.Rows
import Derived.Lib.AppendStr
import Derived.ArgAppend
import Derived.Laws.IdiomCopy
import Derived.OrdersHeld
import Derived.Laws.BitsLemmas
import Derived.RowKit
import Derived.Test.YtfpedicgeepikaaS2
import Derived.Test.YtfpedicgeepikaaWWords
import Derived.Test.YtfpedicgeepikaaWLast
import Derived.Test.YtfpedicgeepikaaWTab
import Derived.Test.YtfpedicgeepikaaWQPut
import Derived.Test.YtfpedicgeepikaaWApart
import Derived.Test.YtfpedicgeepikaaWArr
import Derived.Test.YtfpedicgeepikaaWZeros
import Derived.Test.YtfpedicgeepikaaWFoot
import Derived.Test.YtfpedicgeepikaaWKept
import Derived.Test.YtfpedicgeepikaaWShare
import Derived.Test.YtfpedicgeepikaaWN
import Derived.Test.YtfpedicgeepikaaWRepsOne
import Derived.Test.YtfpedicgeepikaaWGuard
import Derived.Test.YtfpedicgeepikaaWNEv
import Derived.Test.YtfpedicgeepikaaWMore
import Derived.Test.YtfpedicgeepikaaG12

namespace Go.Proofs.Ytfpedicgeepikaa.G
open Go.RowKit Go.Proofs.YtfpedicgeepikaaW.PrintWords Go.Proofs.YtfpedicgeepikaaW.PrintLast Go.Proofs.YtfpedicgeepikaaW.PrintMore
attribute [local go_sem] max2_int min2_int max_two min_two max_three min_three max_four min_four
set_option linter.unusedVariables false
set_option linter.unusedSimpArgs false

set_option maxRecDepth 100000 in
set_option maxHeartbeats 8000000 in
theorem pairs_main (k : Nat) (h : Int) (n : ByteArray) (A : Option Addr) (c : Nat) (l : List ByteArray) (p : Int) (h' : Int) (n' : ByteArray) (A' : Option Addr) (c' : Nat) (l' : List ByteArray) (p' : Int) (s : ByteArray) (x1 : Int) (x2 : ByteArray) (x3 : List ByteArray) (x4 : Int) (y1 : Int) (y2 : ByteArray) (y3 : List ByteArray) (y4 : Int) (p1 : Int) (p2 : ByteArray) (p3 : List ByteArray) (p4 : Int) (q1 : Int) (q2 : ByteArray) (q3 : List ByteArray) (q4 : Int) (ok good aa bb ss mm : Bool) (w : World) (ka : CS w A c l) (kb : CS w A' c' l') (hs1 : decide (300 < s.size) = false) (hs2 : decide (300 < (s.size : Int)) = false)
    (hK_ : Pr.rubriclaw14_known.f k = some true) (hFa_ : Pr.rubriclaw14_Few.f k h n l p = some true) (hFb_ : Pr.rubriclaw14_Few.f k h' n' l' p' = some true) (hRa_ : Pr.wild_Right.f k h n l p = some true) (hQa_ : Pr.rubricref14_Right.f k h n l p = some true) (hRb_ : Pr.wild_Right.f k h' n' l' p' = some true) (hQb_ : Pr.rubricref14_Right.f k h' n' l' p' = some true) (hX_ : G.wild_Both.f k h n l p h' n' l' p' = some (x1, x2, x3, x4, ok)) (hY_ : Pr.rubricref14_Both.f k h n l p h' n' l' p' = some (y1, y2, y3, y4, ok)) (hP_ : G.wild_Union.f k h n l p h' n' l' p' = some (p1, p2, p3, p4, good)) (hQ_ : Pr.rubricref14_Union.f k h n l p h' n' l' p' = some (q1, q2, q3, q4, good)) (hAa_ : Pr.wild_Allows.f k h n l p s = some aa) (hBa_ : Pr.rubricref14_Allows.f k h n l p s = some aa) (hAb_ : Pr.wild_Allows.f k h' n' l' p' s = some bb) (hSa_ : G.wild_Sub.f k h n l p h' n' l' p' = some ss) (hTa_ : Pr.rubricref14_Sub.f k h n l p h' n' l' p' = some ss) (hMa_ : Pr.wild_Same.f k h n l p h' n' l' p' = some mm) (hNa_ : Pr.rubricref14_Same.f k h n l p h' n' l' p' = some mm) (hXs_ : ok = true → Pr.rubricref14_Same.f k x1 x2 x3 x4 y1 y2 y3 y4 = some true) (hXr_ : ok = true → Pr.wild_Right.f k x1 x2 x3 x4 = some true) (hXa_ : ok = true → Pr.wild_Allows.f k x1 x2 x3 x4 s = some (aa && bb)) (hPs_ : good = true → Pr.rubricref14_Same.f k p1 p2 p3 p4 q1 q2 q3 q4 = some true) (hPr_ : good = true → Pr.wild_Right.f k p1 p2 p3 p4 = some true) (hPa_ : good = true → Pr.wild_Allows.f k p1 p2 p3 p4 s = some (aa || bb)) :
    Calls Try.prog 5 #[.agg #[.int .i64 h, .string n, .slice A l.length c, .int .i64 p], .agg #[.int .i64 h', .string n', .slice A' l'.length c', .int .i64 p'], .string s] w fun e w' => e = .returned (.bool true) ∧ Below w.heap.size w w' := by
  have HK := Lib.hid hK_; clear hK_
  have HFa := Lib.hid hFa_; clear hFa_
  have HFb := Lib.hid hFb_; clear hFb_
  have HRa := Lib.hid hRa_; clear hRa_
  have HQa := Lib.hid hQa_; clear hQa_
  have HRb := Lib.hid hRb_; clear hRb_
  have HQb := Lib.hid hQb_; clear hQb_
  have HX := Lib.hid hX_; clear hX_
  have HY := Lib.hid hY_; clear hY_
  have HP := Lib.hid hP_; clear hP_
  have HQ := Lib.hid hQ_; clear hQ_
  have HAa := Lib.hid hAa_; clear hAa_
  have HBa := Lib.hid hBa_; clear hBa_
  have HAb := Lib.hid hAb_; clear hAb_
  have HSa := Lib.hid hSa_; clear hSa_
  have HTa := Lib.hid hTa_; clear hTa_
  have HMa := Lib.hid hMa_; clear hMa_
  have HNa := Lib.hid hNa_; clear hNa_
  have HXs := Lib.hid hXs_; clear hXs_
  have HXr := Lib.hid hXr_; clear hXr_
  have HXa := Lib.hid hXa_; clear hXa_
  have HPs := Lib.hid hPs_; clear hPs_
  have HPr := Lib.hid hPr_; clear hPr_
  have HPa := Lib.hid hPa_; clear hPa_
  have haan : (aa != aa) = false := by simp
  have hbbn : (bb != bb) = false := by simp
  have hssn : (ss != ss) = false := by simp
  have hmmn : (mm != mm) = false := by simp
  have hokn : (ok != ok) = false := by simp
  have hgoodn : (good != good) = false := by simp
  have hbe : (bb == bb) = true := by simp
  have hu26 := Try.underlying26; have hu38 := Try.underlying38
  go_enter Try.func5, Try.ntmps5
  go_wp2_with (fail)
  have HB := below_alloc (below_alloc (Below.refl w.heap.size w) (.cells #[.int .i64 h, .string n, .slice A l.length c, .int .i64 p] 26)) (.cells #[.int .i64 h', .string n', .slice A' l'.length c', .int .i64 p'] 26)
  have KA : Bk ((w.alloc (.cells #[.int .i64 h, .string n, .slice A l.length c, .int .i64 p] 26)).alloc (.cells #[.int .i64 h', .string n', .slice A' l'.length c', .int .i64 p'] 26)) w.heap.size 26 h n A c l p := ⟨blk_alloc (blk_new w _) _, ka.next HB⟩
  have KB : Bk ((w.alloc (.cells #[.int .i64 h, .string n, .slice A l.length c, .int .i64 p] 26)).alloc (.cells #[.int .i64 h', .string n', .slice A' l'.length c', .int .i64 p'] 26)) (w.heap.size + 1) 26 h' n' A' c' l' p' := ⟨by have := blk_new (w.alloc (.cells #[.int .i64 h, .string n, .slice A l.length c, .int .i64 p] 26)) (.cells #[.int .i64 h', .string n', .slice A' l'.length c', .int .i64 p'] 26); simpa using this, kb.next HB⟩
  clear ka kb; generalize (w.alloc (.cells #[.int .i64 h, .string n, .slice A l.length c, .int .i64 p] 26)).alloc (.cells #[.int .i64 h', .string n', .slice A' l'.length c', .int .i64 p'] 26) = w0 at HB KA KB ⊢; replace HB := Lib.hid HB; replace KA := Lib.hid KA; replace KB := Lib.hid KB
  have HL := Lib.hid (Below.refl w0.heap.size w0)
  refine (Pr.rubriclaw14_known.calls k true _ HK.out rfl).mono ?_
  rintro e w35_ ⟨rfl, hb⟩
  replace HL := Lib.hid (below_step HL.out hb); clear hb
  obtain ⟨ca0, ca1, ca2, ca3⟩ := (KA.out.next HL.out).c4
  obtain ⟨cb0, cb1, cb2, cb3⟩ := (KB.out.next HL.out).c4
  go_wp2_with (fail)
  clear ca0 ca1 ca2 ca3 cb0 cb1 cb2 cb3
  refine (few_c k h n A c l p _ _ (KA.out.next HL.out).cs HFa.out).mono ?_
  rintro e w36_ ⟨rfl, hb⟩
  replace HL := Lib.hid (below_step HL.out hb); clear hb
  obtain ⟨ca0, ca1, ca2, ca3⟩ := (KA.out.next HL.out).c4
  obtain ⟨cb0, cb1, cb2, cb3⟩ := (KB.out.next HL.out).c4
  go_wp2_with (fail)
  clear ca0 ca1 ca2 ca3 cb0 cb1 cb2 cb3
  refine (few_c k h' n' A' c' l' p' _ _ (KB.out.next HL.out).cs HFb.out).mono ?_
  rintro e w37_ ⟨rfl, hb⟩
  replace HL := Lib.hid (below_step HL.out hb); clear hb
  obtain ⟨ca0, ca1, ca2, ca3⟩ := (KA.out.next HL.out).c4
  obtain ⟨cb0, cb1, cb2, cb3⟩ := (KB.out.next HL.out).c4
  go_wp2_with (fail)
  clear ca0 ca1 ca2 ca3 cb0 cb1 cb2 cb3
  replace KA := Lib.hid (KA.out.next HL.out)
  replace KB := Lib.hid (KB.out.next HL.out)
  replace HB := Lib.hid (below_step HB.out HL.out); clear HL
  replace KA := Lib.hid (KA.out.next (below_drew1 (Below.refl w37_.heap.size w37_)))
  replace KB := Lib.hid (KB.out.next (below_drew1 (Below.refl w37_.heap.size w37_)))
  replace HB := Lib.hid (below_drew1 HB.out)
  refine start_ (n := 14) (S := fun w' => C4 w' w.heap.size (.int .i64 h) (.string n) (.slice A l.length c) (.int .i64 p) ∧ C4 w' (w.heap.size + 1) (.int .i64 h') (.string n') (.slice A' l'.length c') (.int .i64 p')) (ds := []) (S.um 14 0) (by kernel_rfl) rfl rfl ⟨KA.out.c4, KB.out.c4⟩ (fun hHeld => ?_); refine with_tabW wptab5 wpbits5 (fun HT_ HW_ => ?_)
  generalize w37_.drew = w38_ at HB KA KB hHeld ⊢
  have HL := Lib.hid (Below.refl w38_.heap.size w38_)
  refine S.t 14 0 30 1 HT_.out HW_.out rfl rfl hHeld ?_
  refine S.t 14 2 32 5 HT_.out HW_.out rfl rfl hHeld ?_
  refine S.o 14 1 31 7 HT_.out rfl rfl (fun K hK => ?_)
  refine S.g Try.func11 #[.agg #[.int .i64 h, .string n, .slice A l.length c, .int .i64 p]] rfl rfl ?_; (with_reducible refine (right_c k h n A c l p _ _ (KA.out.next HL.out).cs HRa.out).mono ?_); rintro e w39_ ⟨rfl, hb⟩; refine ⟨_, rfl, ?_⟩
  replace HL := Lib.hid (below_step HL.out hb); clear hb
  refine hK.out _ _ ⟨(KA.out.next HL.out).c4, (KB.out.next HL.out).c4⟩ (fun hHeld => ?_); clear hK K; refine S.w 31 ?_
  refine S.o 14 3 33 15 HT_.out rfl rfl (fun K hK => ?_)
  refine S.g Try.func15 #[.agg #[.int .i64 h, .string n, .slice A l.length c, .int .i64 p]] rfl rfl ?_; (with_reducible refine (of_c h n A c l p _ (KA.out.next HL.out).cs).mono ?_); rintro e w40_ ⟨Aa1, ca1, rfl, Ha10, hb⟩; refine ⟨_, rfl, ?_⟩
  replace HL := Lib.hid (below_step HL.out hb); clear hb
  have Ha1 := Lib.hid Ha10; clear Ha10
  refine hK.out _ _ ⟨(KA.out.next HL.out).c4, (KB.out.next HL.out).c4⟩ (fun hHeld => ?_); clear hK K; refine S.w 33 ?_
  refine S.o 14 4 34 31 HT_.out rfl rfl (fun K hK => ?_)
  refine S.g Try.func14 #[.agg #[.int .i64 h, .string n, .slice Aa1 l.length ca1, .int .i64 p]] rfl rfl ?_; (with_reducible refine (rright_c k h n Aa1 ca1 l p _ _ Ha1.out HQa.out).mono ?_); rintro e w41_ ⟨rfl, hb⟩; refine ⟨_, rfl, ?_⟩
  replace Ha1 := Lib.hid (Ha1.out.next hb)
  replace HL := Lib.hid (below_step HL.out hb); clear hb
  clear Ha1
  refine hK.out _ _ ⟨(KA.out.next HL.out).c4, (KB.out.next HL.out).c4⟩ (fun hHeld => ?_); clear hK K; refine S.w 34 ?_
  refine S.p 14 5 35 63 HT_.out rfl rfl ?_
  refine S.p 14 6 36 127 HT_.out rfl rfl ?_
  refine S.t 14 7 37 255 HT_.out HW_.out rfl rfl hHeld ?_
  refine S.t 14 9 39 767 HT_.out HW_.out rfl rfl hHeld ?_
  refine S.o 14 8 38 1023 HT_.out rfl rfl (fun K hK => ?_)
  refine S.g Try.func11 #[.agg #[.int .i64 h', .string n', .slice A' l'.length c', .int .i64 p']] rfl rfl ?_; (with_reducible refine (right_c k h' n' A' c' l' p' _ _ (KB.out.next HL.out).cs HRb.out).mono ?_); rintro e w42_ ⟨rfl, hb⟩; refine ⟨_, rfl, ?_⟩
  replace HL := Lib.hid (below_step HL.out hb); clear hb
  refine hK.out _ _ ⟨(KA.out.next HL.out).c4, (KB.out.next HL.out).c4⟩ (fun hHeld => ?_); clear hK K; refine S.w 38 ?_
  refine S.o 14 10 40 2047 HT_.out rfl rfl (fun K hK => ?_)
  refine S.g Try.func15 #[.agg #[.int .i64 h', .string n', .slice A' l'.length c', .int .i64 p']] rfl rfl ?_; (with_reducible refine (of_c h' n' A' c' l' p' _ (KB.out.next HL.out).cs).mono ?_); rintro e w43_ ⟨Ab2, cb2, rfl, Hb20, hb⟩; refine ⟨_, rfl, ?_⟩
  replace HL := Lib.hid (below_step HL.out hb); clear hb
  have Hb2 := Lib.hid Hb20; clear Hb20
  refine hK.out _ _ ⟨(KA.out.next HL.out).c4, (KB.out.next HL.out).c4⟩ (fun hHeld => ?_); clear hK K; refine S.w 40 ?_
  refine S.o 14 11 41 4095 HT_.out rfl rfl (fun K hK => ?_)
  refine S.g Try.func14 #[.agg #[.int .i64 h', .string n', .slice Ab2 l'.length cb2, .int .i64 p']] rfl rfl ?_; (with_reducible refine (rright_c k h' n' Ab2 cb2 l' p' _ _ Hb2.out HQb.out).mono ?_); rintro e w44_ ⟨rfl, hb⟩; refine ⟨_, rfl, ?_⟩
  replace Hb2 := Lib.hid (Hb2.out.next hb)
  replace HL := Lib.hid (below_step HL.out hb); clear hb
  clear Hb2
  refine hK.out _ _ ⟨(KA.out.next HL.out).c4, (KB.out.next HL.out).c4⟩ (fun hHeld => ?_); clear hK K; refine S.w 41 ?_
  refine S.p 14 12 42 8191 HT_.out rfl rfl ?_
  refine S.p 14 13 43 16383 HT_.out rfl rfl ?_
  refine done_ (done_of HT_.out (by kernel_rfl)) ?_; clear HT_ HW_ hHeld
  replace KA := Lib.hid (KA.out.next HL.out)
  replace KB := Lib.hid (KB.out.next HL.out)
  replace HB := Lib.hid (below_step HB.out HL.out); clear HL
  have HL := Lib.hid (Below.refl w44_.heap.size w44_)
  obtain ⟨ca0, ca1, ca2, ca3⟩ := (KA.out.next HL.out).c4
  obtain ⟨cb0, cb1, cb2, cb3⟩ := (KB.out.next HL.out).c4
  go_wp2_with (fail)
  clear ca0 ca1 ca2 ca3 cb0 cb1 cb2 cb3
  refine (of_c h n A c l p _ (KA.out.next HL.out).cs).mono ?_
  rintro e w45_ ⟨Aa3, ca3, rfl, Ha30, hb⟩
  replace HL := Lib.hid (below_step HL.out hb); clear hb
  have Ha3 := Lib.hid Ha30; clear Ha30
  obtain ⟨ca0, ca1, ca2, ca3⟩ := (KA.out.next HL.out).c4
  obtain ⟨cb0, cb1, cb2, cb3⟩ := (KB.out.next HL.out).c4
  go_wp2_with (fail)
  clear ca0 ca1 ca2 ca3 cb0 cb1 cb2 cb3
  refine (rright_c k h n Aa3 ca3 l p _ _ Ha3.out HQa.out).mono ?_
  rintro e w46_ ⟨rfl, hb⟩
  replace Ha3 := Lib.hid (Ha3.out.next hb)
  replace HL := Lib.hid (below_step HL.out hb); clear hb
  clear Ha3
  obtain ⟨ca0, ca1, ca2, ca3⟩ := (KA.out.next HL.out).c4
  obtain ⟨cb0, cb1, cb2, cb3⟩ := (KB.out.next HL.out).c4
  go_wp2_with (fail)
  clear ca0 ca1 ca2 ca3 cb0 cb1 cb2 cb3
  refine (of_c h' n' A' c' l' p' _ (KB.out.next HL.out).cs).mono ?_
  rintro e w47_ ⟨Ab4, cb4, rfl, Hb40, hb⟩
  replace HL := Lib.hid (below_step HL.out hb); clear hb
  have Hb4 := Lib.hid Hb40; clear Hb40
  obtain ⟨ca0, ca1, ca2, ca3⟩ := (KA.out.next HL.out).c4
  obtain ⟨cb0, cb1, cb2, cb3⟩ := (KB.out.next HL.out).c4
  go_wp2_with (fail)
  clear ca0 ca1 ca2 ca3 cb0 cb1 cb2 cb3
  refine (rright_c k h' n' Ab4 cb4 l' p' _ _ Hb4.out HQb.out).mono ?_
  rintro e w48_ ⟨rfl, hb⟩
  replace Hb4 := Lib.hid (Hb4.out.next hb)
  replace HL := Lib.hid (below_step HL.out hb); clear hb
  clear Hb4
  obtain ⟨ca0, ca1, ca2, ca3⟩ := (KA.out.next HL.out).c4
  obtain ⟨cb0, cb1, cb2, cb3⟩ := (KB.out.next HL.out).c4
  go_wp2_with (fail)
  clear ca0 ca1 ca2 ca3 cb0 cb1 cb2 cb3
  refine (both_c k h n A c l p h' n' A' c' l' p' x1 x2 x3 x4 ok _ (KA.out.next HL.out).cs (KB.out.next HL.out).cs HX.out).mono ?_
  rintro e w49_ ⟨AX, cX, rfl, Hx0, hb⟩
  replace HL := Lib.hid (below_step HL.out hb); clear hb
  have Hx := Lib.hid Hx0; clear Hx0
  obtain ⟨ca0, ca1, ca2, ca3⟩ := (KA.out.next HL.out).c4
  obtain ⟨cb0, cb1, cb2, cb3⟩ := (KB.out.next HL.out).c4
  go_wp2_with (first | ((with_reducible refine gate_dst (N := 7) rfl ?_); (try (refine gate_guard (by rfl) ?_; dsimp only)); refine box_event ?hg (N := 7) ?hd (cs := #[.int .i64 0, .string (⟨#[]⟩ : ByteArray), .slice none 0 0, .int .i64 0]) (t := 26) ?hr ?_; (case hd => rfl); (case hg => rfl); (case hr => first | (go_simp; done) | (go_simp; rfl)); intro gx hg w50_ hbox hb; have hz0 := (blk_cell hbox 0).trans rfl; have hz1 := (blk_cell hbox 1).trans rfl; have hz2 := (blk_cell hbox 2).trans rfl; have hz3 := (blk_cell hbox 3).trans rfl; have hf0 := blk_frozen hbox 0; have hf1 := blk_frozen hbox 1; have hf2 := blk_frozen hbox 2; have hf3 := blk_frozen hbox 3; have HQX := Lib.hid hg; have HBX := Lib.hid hbox; have HBB := Lib.hid hb; clear hg hbox hb))
  clear ca0 ca1 ca2 ca3 cb0 cb1 cb2 cb3
  clear hz0 hz1 hz2 hz3 hf0 hf1 hf2 hf3
  have hq := b4 (v0 := .int .i64 x1) (v1 := .string x2) (v2 := .slice AX x3.length cX) (v3 := .int .i64 x4) HBB.out (Nat.le_of_eq HQX.out.symm)
  have KX : Bk ((((w50_.setCell ⟨gx, 0, none⟩ (.int .i64 x1)).setCell ⟨gx, 1, none⟩ (.string x2)).setCell ⟨gx, 2, none⟩ (.slice AX x3.length cX)).setCell ⟨gx, 3, none⟩ (.int .i64 x4)) gx 26 x1 x2 AX cX x3 x4 := ⟨blk4 HBX.out, Hx.out.next hq⟩
  replace HL := Lib.hid (below_step HL.out hq); clear hq HBB HBX HQX Hx
  generalize (((w50_.setCell ⟨gx, 0, none⟩ (.int .i64 x1)).setCell ⟨gx, 1, none⟩ (.string x2)).setCell ⟨gx, 2, none⟩ (.slice AX x3.length cX)).setCell ⟨gx, 3, none⟩ (.int .i64 x4) = w51_ at KX HL ⊢; replace KX := Lib.hid KX
  replace KA := Lib.hid (KA.out.next HL.out)
  replace KB := Lib.hid (KB.out.next HL.out)
  replace HB := Lib.hid (below_step HB.out HL.out); clear HL
  replace KA := Lib.hid (KA.out.next (below_drew1 (Below.refl w51_.heap.size w51_)))
  replace KB := Lib.hid (KB.out.next (below_drew1 (Below.refl w51_.heap.size w51_)))
  replace KX := Lib.hid (KX.out.next (below_drew1 (Below.refl w51_.heap.size w51_)))
  replace HB := Lib.hid (below_drew1 HB.out)
  refine start_ (n := 11) (S := fun w' => C4 w' w.heap.size (.int .i64 h) (.string n) (.slice A l.length c) (.int .i64 p) ∧ C4 w' (w.heap.size + 1) (.int .i64 h') (.string n') (.slice A' l'.length c') (.int .i64 p')) (ds := []) (S.um 11 0) (by kernel_rfl) rfl rfl ⟨KA.out.c4, KB.out.c4⟩ (fun hHeld => ?_); refine with_tabW wptab10 wpbits10 (fun HT_ HW_ => ?_)
  generalize w51_.drew = w52_ at HB KA KB KX hHeld ⊢
  have HL := Lib.hid (Below.refl w52_.heap.size w52_)
  refine S.t 11 0 61 1 HT_.out HW_.out rfl rfl hHeld ?_
  refine S.t 11 2 63 5 HT_.out HW_.out rfl rfl hHeld ?_
  refine join_ (σ := Option Addr × Nat × Option Addr × Nat × Option Addr × Nat × Nat) 2 (S.um 11 511) (fun s_ => [(62, .agg #[.int .i64 h, .string n, .slice s_.1 l.length s_.2.1, .int .i64 p]), (64, .agg #[.int .i64 h', .string n', .slice s_.2.2.1 l'.length s_.2.2.2.1, .int .i64 p']), (65, .tuple #[.agg #[.int .i64 y1, .string y2, .slice s_.2.2.2.2.1 y3.length s_.2.2.2.2.2.1, .int .i64 y4], .bool ok]), (9, .pointer (some ⟨s_.2.2.2.2.2.2, 0, none⟩)), (60, .tuple #[.agg #[.int .i64 y1, .string y2, .slice s_.2.2.2.2.1 y3.length s_.2.2.2.2.2.1, .int .i64 y4], .bool ok]), (66, .agg #[.int .i64 y1, .string y2, .slice s_.2.2.2.2.1 y3.length s_.2.2.2.2.2.1, .int .i64 y4]), (67, .bool ok)]) (fun s_ w' => (C4 w' w.heap.size (.int .i64 h) (.string n) (.slice A l.length c) (.int .i64 p) ∧ C4 w' (w.heap.size + 1) (.int .i64 h') (.string n') (.slice A' l'.length c') (.int .i64 p')) ∧ Below w52_.heap.size w52_ w' ∧ w52_.heap.size ≤ s_.2.2.2.2.2.2 ∧ w'.heap[s_.2.2.2.2.2.2]? = some (.cells #[.int .i64 0, .string (⟨#[]⟩ : ByteArray), .slice none 0 0, .int .i64 0] 38 (0, 0)) ∧ CN w' s_.2.2.2.2.2.2 s_.2.2.2.2.1 s_.2.2.2.2.2.1 y3) ?_ ?_; rotate_left
  · intro hCont
    refine two_ (i := 1) (j := 8) (Ni := some 62) (Nj := some 9) (S.um 11 7) (S.um 11 261) rfl rfl rfl rfl (two_of HT_.out (by kernel_rfl)) (by decide) (by decide) (fun K hK => ?_) (fun K hK => ?_)
    · skip
      refine S.g Try.func15 #[.agg #[.int .i64 h, .string n, .slice A l.length c, .int .i64 p]] rfl rfl ?_; (with_reducible refine (of_c h n A c l p _ (KA.out.next HL.out).cs).mono ?_); rintro e w53_ ⟨Aa5, ca5, rfl, Ha50, hb⟩; refine ⟨_, rfl, ?_⟩
      replace HL := Lib.hid (below_step HL.out hb); clear hb
      have Ha5 := Lib.hid Ha50; clear Ha50
      refine hK.out _ _ ⟨(KA.out.next HL.out).c4, (KB.out.next HL.out).c4⟩ (fun hHeld => ?_); clear hK K; refine S.w 62 ?_
      refine two_ (i := 3) (j := 8) (Ni := some 64) (Nj := some 9) (S.um 11 15) (S.um 11 263) rfl rfl rfl rfl (two_of HT_.out (by kernel_rfl)) (by decide) (by decide) (fun K hK => ?_) (fun K hK => ?_)
      · skip
        refine S.g Try.func15 #[.agg #[.int .i64 h', .string n', .slice A' l'.length c', .int .i64 p']] rfl rfl ?_; (with_reducible refine (of_c h' n' A' c' l' p' _ (KB.out.next HL.out).cs).mono ?_); rintro e w54_ ⟨Ab6, cb6, rfl, Hb60, hb⟩; refine ⟨_, rfl, ?_⟩
        replace Ha5 := Lib.hid (Ha5.out.next hb)
        replace HL := Lib.hid (below_step HL.out hb); clear hb
        have Hb6 := Lib.hid Hb60; clear Hb60
        refine hK.out _ _ ⟨(KA.out.next HL.out).c4, (KB.out.next HL.out).c4⟩ (fun hHeld => ?_); clear hK K; refine S.w 64 ?_
        refine two_ (i := 4) (j := 8) (Ni := some 65) (Nj := some 9) (S.um 11 31) (S.um 11 271) rfl rfl rfl rfl (two_of HT_.out (by kernel_rfl)) (by decide) (by decide) (fun K hK => ?_) (fun K hK => ?_)
        · skip
          refine S.g Try.func16 #[.agg #[.int .i64 h, .string n, .slice Aa5 l.length ca5, .int .i64 p], .agg #[.int .i64 h', .string n', .slice Ab6 l'.length cb6, .int .i64 p']] rfl rfl ?_; (with_reducible refine (rboth_c k h n Aa5 ca5 l p h' n' Ab6 cb6 l' p' y1 y2 y3 y4 ok _ Ha5.out Hb6.out HY.out).mono ?_); rintro e w55_ ⟨AY, cY, rfl, Hy0, hb⟩; refine ⟨_, rfl, ?_⟩
          replace Ha5 := Lib.hid (Ha5.out.next hb)
          replace Hb6 := Lib.hid (Hb6.out.next hb)
          replace HL := Lib.hid (below_step HL.out hb); clear hb
          have Hy := Lib.hid Hy0; clear Hy0
          refine hK.out _ _ ⟨(KA.out.next HL.out).c4, (KB.out.next HL.out).c4⟩ (fun hHeld => ?_); clear hK K; refine S.w 65 ?_
          refine S.p 11 5 60 63 HT_.out rfl rfl ?_
          refine S.p 11 6 66 127 HT_.out rfl rfl ?_
          refine S.p 11 7 67 255 HT_.out rfl rfl ?_
          refine S.o 11 8 9 511 HT_.out rfl rfl (fun K hK => ?_)
          refine box_step ?hg (N := 9) ?hd (cs := #[.int .i64 0, .string (⟨#[]⟩ : ByteArray), .slice none 0 0, .int .i64 0]) (t := 38) ?hr ?_; (case hd => rfl); (case hg => rfl); (case hr => first | (go_simp; done) | (go_simp; rfl)); intro gy hg w56_ hbox hb
          have HG := Lib.hid (Nat.le_trans (below_size HL.out) (Nat.le_of_eq hg.symm)); have HZ := Lib.hid hbox; have HGL := Lib.hid (blk_lt hbox)
          replace Ha5 := Lib.hid (CS.far Ha5.out hb (Nat.le_of_eq hg.symm))
          replace Hb6 := Lib.hid (CS.far Hb6.out hb (Nat.le_of_eq hg.symm))
          replace Hy := Lib.hid (CS.far Hy.out hb (Nat.le_of_eq hg.symm))
          replace HL := Lib.hid (below_step HL.out hb); clear hb hg hbox
          refine hK.out _ _ ⟨(KA.out.next HL.out).c4, (KB.out.next HL.out).c4⟩ (fun hHeld => ?_); clear hK K; refine S.w 9 ?_
          exact norm_ (by simp only [putAll, Act.put, List.setIfInBounds_toArray, List.set_cons_zero, List.set_cons_succ]) (hCont (Aa5, ca5, Ab6, cb6, AY, cY, gy) _ ⟨hHeld, HL.out, HG.out, HZ.out, Hy.out⟩)
        · skip
          refine box_step ?hg (N := 9) ?hd (cs := #[.int .i64 0, .string (⟨#[]⟩ : ByteArray), .slice none 0 0, .int .i64 0]) (t := 38) ?hr ?_; (case hd => rfl); (case hg => rfl); (case hr => first | (go_simp; done) | (go_simp; rfl)); intro gy hg w57_ hbox hb
          have HG := Lib.hid (Nat.le_trans (below_size HL.out) (Nat.le_of_eq hg.symm)); have HZ := Lib.hid hbox; have HGL := Lib.hid (blk_lt hbox)
          replace Ha5 := Lib.hid (CS.far Ha5.out hb (Nat.le_of_eq hg.symm))
          replace Hb6 := Lib.hid (CS.far Hb6.out hb (Nat.le_of_eq hg.symm))
          replace HL := Lib.hid (below_step HL.out hb); clear hb hg hbox
          refine hK.out _ _ ⟨(KA.out.next HL.out).c4, (KB.out.next HL.out).c4⟩ (fun hHeld => ?_); clear hK K; refine S.w 9 ?_
          refine S.o 11 4 65 287 HT_.out rfl rfl (fun K hK => ?_)
          refine S.g Try.func16 #[.agg #[.int .i64 h, .string n, .slice Aa5 l.length ca5, .int .i64 p], .agg #[.int .i64 h', .string n', .slice Ab6 l'.length cb6, .int .i64 p']] rfl rfl ?_; (with_reducible refine (rboth_n k h n Aa5 ca5 l p h' n' Ab6 cb6 l' p' y1 y2 y3 y4 ok _ gy Ha5.out Hb6.out HGL.out HY.out).mono ?_); rintro e w58_ ⟨AY, cY, rfl, Hy0, hb⟩; refine ⟨_, rfl, ?_⟩
          replace Ha5 := Lib.hid (Ha5.out.next hb)
          replace Hb6 := Lib.hid (Hb6.out.next hb)
          replace HL := Lib.hid (below_step HL.out hb); replace HZ := Lib.hid (blk_below HZ.out hb); replace HGL := Lib.hid (Nat.lt_of_lt_of_le HGL.out hb.size); clear hb
          have Hy := Lib.hid Hy0; clear Hy0
          refine hK.out _ _ ⟨(KA.out.next HL.out).c4, (KB.out.next HL.out).c4⟩ (fun hHeld => ?_); clear hK K; refine S.w 65 ?_
          refine S.p 11 5 60 319 HT_.out rfl rfl ?_
          refine S.p 11 6 66 383 HT_.out rfl rfl ?_
          refine S.p 11 7 67 511 HT_.out rfl rfl ?_
          exact norm_ (by simp only [putAll, Act.put, List.setIfInBounds_toArray, List.set_cons_zero, List.set_cons_succ]) (hCont (Aa5, ca5, Ab6, cb6, AY, cY, gy) _ ⟨hHeld, HL.out, HG.out, HZ.out, Hy.out⟩)
      · skip
        refine box_step ?hg (N := 9) ?hd (cs := #[.int .i64 0, .string (⟨#[]⟩ : ByteArray), .slice none 0 0, .int .i64 0]) (t := 38) ?hr ?_; (case hd => rfl); (case hg => rfl); (case hr => first | (go_simp; done) | (go_simp; rfl)); intro gy hg w59_ hbox hb
        have HG := Lib.hid (Nat.le_trans (below_size HL.out) (Nat.le_of_eq hg.symm)); have HZ := Lib.hid hbox; have HGL := Lib.hid (blk_lt hbox)
        replace Ha5 := Lib.hid (CS.far Ha5.out hb (Nat.le_of_eq hg.symm))
        replace HL := Lib.hid (below_step HL.out hb); clear hb hg hbox
        refine hK.out _ _ ⟨(KA.out.next HL.out).c4, (KB.out.next HL.out).c4⟩ (fun hHeld => ?_); clear hK K; refine S.w 9 ?_
        refine S.o 11 3 64 271 HT_.out rfl rfl (fun K hK => ?_)
        refine S.g Try.func15 #[.agg #[.int .i64 h', .string n', .slice A' l'.length c', .int .i64 p']] rfl rfl ?_; (with_reducible refine (of_n h' n' A' c' l' p' _ gy (CS.far KB.out.cs HL.out HG.out) HGL.out).mono ?_); rintro e w60_ ⟨Ab6, cb6, rfl, Hb60, hb⟩; refine ⟨_, rfl, ?_⟩
        replace Ha5 := Lib.hid (Ha5.out.next hb)
        replace HL := Lib.hid (below_step HL.out hb); replace HZ := Lib.hid (blk_below HZ.out hb); replace HGL := Lib.hid (Nat.lt_of_lt_of_le HGL.out hb.size); clear hb
        have Hb6 := Lib.hid Hb60; clear Hb60
        refine hK.out _ _ ⟨(KA.out.next HL.out).c4, (KB.out.next HL.out).c4⟩ (fun hHeld => ?_); clear hK K; refine S.w 64 ?_
        refine S.o 11 4 65 287 HT_.out rfl rfl (fun K hK => ?_)
        refine S.g Try.func16 #[.agg #[.int .i64 h, .string n, .slice Aa5 l.length ca5, .int .i64 p], .agg #[.int .i64 h', .string n', .slice Ab6 l'.length cb6, .int .i64 p']] rfl rfl ?_; (with_reducible refine (rboth_n k h n Aa5 ca5 l p h' n' Ab6 cb6 l' p' y1 y2 y3 y4 ok _ gy Ha5.out Hb6.out HGL.out HY.out).mono ?_); rintro e w61_ ⟨AY, cY, rfl, Hy0, hb⟩; refine ⟨_, rfl, ?_⟩
        replace Ha5 := Lib.hid (Ha5.out.next hb)
        replace Hb6 := Lib.hid (Hb6.out.next hb)
        replace HL := Lib.hid (below_step HL.out hb); replace HZ := Lib.hid (blk_below HZ.out hb); replace HGL := Lib.hid (Nat.lt_of_lt_of_le HGL.out hb.size); clear hb
        have Hy := Lib.hid Hy0; clear Hy0
        refine hK.out _ _ ⟨(KA.out.next HL.out).c4, (KB.out.next HL.out).c4⟩ (fun hHeld => ?_); clear hK K; refine S.w 65 ?_
        refine S.p 11 5 60 319 HT_.out rfl rfl ?_
        refine S.p 11 6 66 383 HT_.out rfl rfl ?_
        refine S.p 11 7 67 511 HT_.out rfl rfl ?_
        exact norm_ (by simp only [putAll, Act.put, List.setIfInBounds_toArray, List.set_cons_zero, List.set_cons_succ]) (hCont (Aa5, ca5, Ab6, cb6, AY, cY, gy) _ ⟨hHeld, HL.out, HG.out, HZ.out, Hy.out⟩)
    · skip
      refine box_step ?hg (N := 9) ?hd (cs := #[.int .i64 0, .string (⟨#[]⟩ : ByteArray), .slice none 0 0, .int .i64 0]) (t := 38) ?hr ?_; (case hd => rfl); (case hg => rfl); (case hr => first | (go_simp; done) | (go_simp; rfl)); intro gy hg w62_ hbox hb
      have HG := Lib.hid (Nat.le_trans (below_size HL.out) (Nat.le_of_eq hg.symm)); have HZ := Lib.hid hbox; have HGL := Lib.hid (blk_lt hbox)
      replace HL := Lib.hid (below_step HL.out hb); clear hb hg hbox
      refine hK.out _ _ ⟨(KA.out.next HL.out).c4, (KB.out.next HL.out).c4⟩ (fun hHeld => ?_); clear hK K; refine S.w 9 ?_
      refine S.o 11 1 62 263 HT_.out rfl rfl (fun K hK => ?_)
      refine S.g Try.func15 #[.agg #[.int .i64 h, .string n, .slice A l.length c, .int .i64 p]] rfl rfl ?_; (with_reducible refine (of_n h n A c l p _ gy (CS.far KA.out.cs HL.out HG.out) HGL.out).mono ?_); rintro e w63_ ⟨Aa5, ca5, rfl, Ha50, hb⟩; refine ⟨_, rfl, ?_⟩
      replace HL := Lib.hid (below_step HL.out hb); replace HZ := Lib.hid (blk_below HZ.out hb); replace HGL := Lib.hid (Nat.lt_of_lt_of_le HGL.out hb.size); clear hb
      have Ha5 := Lib.hid Ha50; clear Ha50
      refine hK.out _ _ ⟨(KA.out.next HL.out).c4, (KB.out.next HL.out).c4⟩ (fun hHeld => ?_); clear hK K; refine S.w 62 ?_
      refine S.o 11 3 64 271 HT_.out rfl rfl (fun K hK => ?_)
      refine S.g Try.func15 #[.agg #[.int .i64 h', .string n', .slice A' l'.length c', .int .i64 p']] rfl rfl ?_; (with_reducible refine (of_n h' n' A' c' l' p' _ gy (CS.far KB.out.cs HL.out HG.out) HGL.out).mono ?_); rintro e w64_ ⟨Ab6, cb6, rfl, Hb60, hb⟩; refine ⟨_, rfl, ?_⟩
      replace Ha5 := Lib.hid (Ha5.out.next hb)
      replace HL := Lib.hid (below_step HL.out hb); replace HZ := Lib.hid (blk_below HZ.out hb); replace HGL := Lib.hid (Nat.lt_of_lt_of_le HGL.out hb.size); clear hb
      have Hb6 := Lib.hid Hb60; clear Hb60
      refine hK.out _ _ ⟨(KA.out.next HL.out).c4, (KB.out.next HL.out).c4⟩ (fun hHeld => ?_); clear hK K; refine S.w 64 ?_
      refine S.o 11 4 65 287 HT_.out rfl rfl (fun K hK => ?_)
      refine S.g Try.func16 #[.agg #[.int .i64 h, .string n, .slice Aa5 l.length ca5, .int .i64 p], .agg #[.int .i64 h', .string n', .slice Ab6 l'.length cb6, .int .i64 p']] rfl rfl ?_; (with_reducible refine (rboth_n k h n Aa5 ca5 l p h' n' Ab6 cb6 l' p' y1 y2 y3 y4 ok _ gy Ha5.out Hb6.out HGL.out HY.out).mono ?_); rintro e w65_ ⟨AY, cY, rfl, Hy0, hb⟩; refine ⟨_, rfl, ?_⟩
      replace Ha5 := Lib.hid (Ha5.out.next hb)
      replace Hb6 := Lib.hid (Hb6.out.next hb)
      replace HL := Lib.hid (below_step HL.out hb); replace HZ := Lib.hid (blk_below HZ.out hb); replace HGL := Lib.hid (Nat.lt_of_lt_of_le HGL.out hb.size); clear hb
      have Hy := Lib.hid Hy0; clear Hy0
      refine hK.out _ _ ⟨(KA.out.next HL.out).c4, (KB.out.next HL.out).c4⟩ (fun hHeld => ?_); clear hK K; refine S.w 65 ?_
      refine S.p 11 5 60 319 HT_.out rfl rfl ?_
      refine S.p 11 6 66 383 HT_.out rfl rfl ?_
      refine S.p 11 7 67 511 HT_.out rfl rfl ?_
      exact norm_ (by simp only [putAll, Act.put, List.setIfInBounds_toArray, List.set_cons_zero, List.set_cons_succ]) (hCont (Aa5, ca5, Ab6, cb6, AY, cY, gy) _ ⟨hHeld, HL.out, HG.out, HZ.out, Hy.out⟩)
  rintro ⟨A1_, c1_, A2_, c2_, AY, cY, gy⟩ w66_ ⟨hHeld, hl_, hg_, hz_, hn_⟩; dsimp only at hHeld hl_ hg_ hz_ hn_; clear HL
  have HL := Lib.hid hl_; have HG := Lib.hid hg_; have HZ := Lib.hid hz_; have HN := Lib.hid hn_; clear hl_ hg_ hz_ hn_
  refine norm_ (a' := ?_) ?_ ?_; rotate_left
  ·simp only [putAll, Act.put, List.setIfInBounds_toArray, List.set_cons_zero, List.set_cons_succ]; rfl
  refine one_ (i := 9) (N := none) (S.um 11 1023) rfl rfl (one_of HT_.out (by kernel_rfl)) (by decide) (fun K hK => ?_)
  have hz0 := (blk_cell HZ.out 0).trans rfl; have hz1 := (blk_cell HZ.out 1).trans rfl; have hz2 := (blk_cell HZ.out 2).trans rfl; have hz3 := (blk_cell HZ.out 3).trans rfl; have hf0 := blk_frozen HZ.out 0; have hf1 := blk_frozen HZ.out 1; have hf2 := blk_frozen HZ.out 2; have hf3 := blk_frozen HZ.out 3
  refine skip_ (w1 := ?_) (by rfl) rfl ?_ ?_; rotate_left
  ·go_simp; rfl
  clear hz0 hz1 hz2 hz3 hf0 hf1 hf2 hf3
  refine hK.out _ _ ⟨(KA.out.next (b4 HL.out HG.out)).c4, (KB.out.next (b4 HL.out HG.out)).c4⟩ (fun hHeld => ?_); clear hK K
  refine S.p 11 10 10 2047 HT_.out rfl rfl ?_
  refine done_ (done_of HT_.out (by kernel_rfl)) ?_; clear HT_ HW_ hHeld
  have KY : Bk ((((w66_.setCell ⟨gy, 0, none⟩ (.int .i64 y1)).setCell ⟨gy, 1, none⟩ (.string y2)).setCell ⟨gy, 2, none⟩ (.slice AY y3.length cY)).setCell ⟨gy, 3, none⟩ (.int .i64 y4)) gy 38 y1 y2 AY cY y3 y4 := ⟨blk4 HZ.out, n4 HN.out⟩
  replace HL := Lib.hid (b4 (v0 := .int .i64 y1) (v1 := .string y2) (v2 := .slice AY y3.length cY) (v3 := .int .i64 y4) HL.out HG.out); clear HZ HN HG
  generalize (((w66_.setCell ⟨gy, 0, none⟩ (.int .i64 y1)).setCell ⟨gy, 1, none⟩ (.string y2)).setCell ⟨gy, 2, none⟩ (.slice AY y3.length cY)).setCell ⟨gy, 3, none⟩ (.int .i64 y4) = w67_ at KY HL ⊢; replace KY := Lib.hid KY
  replace KA := Lib.hid (KA.out.next HL.out)
  replace KB := Lib.hid (KB.out.next HL.out)
  replace KX := Lib.hid (KX.out.next HL.out)
  replace HB := Lib.hid (below_step HB.out HL.out); clear HL
  have HL := Lib.hid (Below.refl w67_.heap.size w67_)
  obtain ⟨ca0, ca1, ca2, ca3⟩ := (KA.out.next HL.out).c4
  obtain ⟨cb0, cb1, cb2, cb3⟩ := (KB.out.next HL.out).c4
  go_wp2_with (fail)
  clear ca0 ca1 ca2 ca3 cb0 cb1 cb2 cb3
  refine (union_c k h n A c l p h' n' A' c' l' p' p1 p2 p3 p4 good _ (KA.out.next HL.out).cs (KB.out.next HL.out).cs HP.out).mono ?_
  rintro e w68_ ⟨AP, cP, rfl, Hp0, hb⟩
  replace HL := Lib.hid (below_step HL.out hb); clear hb
  have Hp := Lib.hid Hp0; clear Hp0
  obtain ⟨ca0, ca1, ca2, ca3⟩ := (KA.out.next HL.out).c4
  obtain ⟨cb0, cb1, cb2, cb3⟩ := (KB.out.next HL.out).c4
  go_wp2_with (first | ((with_reducible refine gate_dst (N := 11) rfl ?_); (try (refine gate_guard (by rfl) ?_; dsimp only)); refine box_event ?hg (N := 11) ?hd (cs := #[.int .i64 0, .string (⟨#[]⟩ : ByteArray), .slice none 0 0, .int .i64 0]) (t := 26) ?hr ?_; (case hd => rfl); (case hg => rfl); (case hr => first | (go_simp; done) | (go_simp; rfl)); intro gp hg w69_ hbox hb; have hz0 := (blk_cell hbox 0).trans rfl; have hz1 := (blk_cell hbox 1).trans rfl; have hz2 := (blk_cell hbox 2).trans rfl; have hz3 := (blk_cell hbox 3).trans rfl; have hf0 := blk_frozen hbox 0; have hf1 := blk_frozen hbox 1; have hf2 := blk_frozen hbox 2; have hf3 := blk_frozen hbox 3; have HQX := Lib.hid hg; have HBX := Lib.hid hbox; have HBB := Lib.hid hb; clear hg hbox hb))
  clear ca0 ca1 ca2 ca3 cb0 cb1 cb2 cb3
  clear hz0 hz1 hz2 hz3 hf0 hf1 hf2 hf3
  have hq := b4 (v0 := .int .i64 p1) (v1 := .string p2) (v2 := .slice AP p3.length cP) (v3 := .int .i64 p4) HBB.out (Nat.le_of_eq HQX.out.symm)
  have KP : Bk ((((w69_.setCell ⟨gp, 0, none⟩ (.int .i64 p1)).setCell ⟨gp, 1, none⟩ (.string p2)).setCell ⟨gp, 2, none⟩ (.slice AP p3.length cP)).setCell ⟨gp, 3, none⟩ (.int .i64 p4)) gp 26 p1 p2 AP cP p3 p4 := ⟨blk4 HBX.out, Hp.out.next hq⟩
  replace HL := Lib.hid (below_step HL.out hq); clear hq HBB HBX HQX Hp
  generalize (((w69_.setCell ⟨gp, 0, none⟩ (.int .i64 p1)).setCell ⟨gp, 1, none⟩ (.string p2)).setCell ⟨gp, 2, none⟩ (.slice AP p3.length cP)).setCell ⟨gp, 3, none⟩ (.int .i64 p4) = w70_ at KP HL ⊢; replace KP := Lib.hid KP
  replace KA := Lib.hid (KA.out.next HL.out)
  replace KB := Lib.hid (KB.out.next HL.out)
  replace KX := Lib.hid (KX.out.next HL.out)
  replace KY := Lib.hid (KY.out.next HL.out)
  replace HB := Lib.hid (below_step HB.out HL.out); clear HL
  replace KA := Lib.hid (KA.out.next (below_drew1 (Below.refl w70_.heap.size w70_)))
  replace KB := Lib.hid (KB.out.next (below_drew1 (Below.refl w70_.heap.size w70_)))
  replace KX := Lib.hid (KX.out.next (below_drew1 (Below.refl w70_.heap.size w70_)))
  replace KY := Lib.hid (KY.out.next (below_drew1 (Below.refl w70_.heap.size w70_)))
  replace KP := Lib.hid (KP.out.next (below_drew1 (Below.refl w70_.heap.size w70_)))
  replace HB := Lib.hid (below_drew1 HB.out)
  refine start_ (n := 11) (S := fun w' => C4 w' w.heap.size (.int .i64 h) (.string n) (.slice A l.length c) (.int .i64 p) ∧ C4 w' (w.heap.size + 1) (.int .i64 h') (.string n') (.slice A' l'.length c') (.int .i64 p')) (ds := []) (S.um 11 0) (by kernel_rfl) rfl rfl ⟨KA.out.c4, KB.out.c4⟩ (fun hHeld => ?_); refine with_tabW wptab12 wpbits12 (fun HT_ HW_ => ?_)
  generalize w70_.drew = w71_ at HB KA KB KX KY KP hHeld ⊢
  have HL := Lib.hid (Below.refl w71_.heap.size w71_)
  refine S.t 11 0 75 1 HT_.out HW_.out rfl rfl hHeld ?_
  refine S.t 11 2 77 5 HT_.out HW_.out rfl rfl hHeld ?_
  refine join_ (σ := Option Addr × Nat × Option Addr × Nat × Option Addr × Nat × Nat) 2 (S.um 11 511) (fun s_ => [(76, .agg #[.int .i64 h, .string n, .slice s_.1 l.length s_.2.1, .int .i64 p]), (78, .agg #[.int .i64 h', .string n', .slice s_.2.2.1 l'.length s_.2.2.2.1, .int .i64 p']), (79, .tuple #[.agg #[.int .i64 q1, .string q2, .slice s_.2.2.2.2.1 q3.length s_.2.2.2.2.2.1, .int .i64 q4], .bool good]), (13, .pointer (some ⟨s_.2.2.2.2.2.2, 0, none⟩)), (74, .tuple #[.agg #[.int .i64 q1, .string q2, .slice s_.2.2.2.2.1 q3.length s_.2.2.2.2.2.1, .int .i64 q4], .bool good]), (80, .agg #[.int .i64 q1, .string q2, .slice s_.2.2.2.2.1 q3.length s_.2.2.2.2.2.1, .int .i64 q4]), (81, .bool good)]) (fun s_ w' => (C4 w' w.heap.size (.int .i64 h) (.string n) (.slice A l.length c) (.int .i64 p) ∧ C4 w' (w.heap.size + 1) (.int .i64 h') (.string n') (.slice A' l'.length c') (.int .i64 p')) ∧ Below w71_.heap.size w71_ w' ∧ w71_.heap.size ≤ s_.2.2.2.2.2.2 ∧ w'.heap[s_.2.2.2.2.2.2]? = some (.cells #[.int .i64 0, .string (⟨#[]⟩ : ByteArray), .slice none 0 0, .int .i64 0] 38 (0, 0)) ∧ CN w' s_.2.2.2.2.2.2 s_.2.2.2.2.1 s_.2.2.2.2.2.1 q3) ?_ ?_; rotate_left
  · intro hCont
    refine two_ (i := 1) (j := 8) (Ni := some 76) (Nj := some 13) (S.um 11 7) (S.um 11 261) rfl rfl rfl rfl (two_of HT_.out (by kernel_rfl)) (by decide) (by decide) (fun K hK => ?_) (fun K hK => ?_)
    · skip
      refine S.g Try.func15 #[.agg #[.int .i64 h, .string n, .slice A l.length c, .int .i64 p]] rfl rfl ?_; (with_reducible refine (of_c h n A c l p _ (KA.out.next HL.out).cs).mono ?_); rintro e w72_ ⟨Aa27, ca27, rfl, Ha270, hb⟩; refine ⟨_, rfl, ?_⟩
      replace HL := Lib.hid (below_step HL.out hb); clear hb
      have Ha27 := Lib.hid Ha270; clear Ha270
      refine hK.out _ _ ⟨(KA.out.next HL.out).c4, (KB.out.next HL.out).c4⟩ (fun hHeld => ?_); clear hK K; refine S.w 76 ?_
      refine two_ (i := 3) (j := 8) (Ni := some 78) (Nj := some 13) (S.um 11 15) (S.um 11 263) rfl rfl rfl rfl (two_of HT_.out (by kernel_rfl)) (by decide) (by decide) (fun K hK => ?_) (fun K hK => ?_)
      · skip
        refine S.g Try.func15 #[.agg #[.int .i64 h', .string n', .slice A' l'.length c', .int .i64 p']] rfl rfl ?_; (with_reducible refine (of_c h' n' A' c' l' p' _ (KB.out.next HL.out).cs).mono ?_); rintro e w73_ ⟨Ab28, cb28, rfl, Hb280, hb⟩; refine ⟨_, rfl, ?_⟩
        replace Ha27 := Lib.hid (Ha27.out.next hb)
        replace HL := Lib.hid (below_step HL.out hb); clear hb
        have Hb28 := Lib.hid Hb280; clear Hb280
        refine hK.out _ _ ⟨(KA.out.next HL.out).c4, (KB.out.next HL.out).c4⟩ (fun hHeld => ?_); clear hK K; refine S.w 78 ?_
        refine two_ (i := 4) (j := 8) (Ni := some 79) (Nj := some 13) (S.um 11 31) (S.um 11 271) rfl rfl rfl rfl (two_of HT_.out (by kernel_rfl)) (by decide) (by decide) (fun K hK => ?_) (fun K hK => ?_)
        · skip
          refine S.g Try.func17 #[.agg #[.int .i64 h, .string n, .slice Aa27 l.length ca27, .int .i64 p], .agg #[.int .i64 h', .string n', .slice Ab28 l'.length cb28, .int .i64 p']] rfl rfl ?_; (with_reducible refine (runion_c k h n Aa27 ca27 l p h' n' Ab28 cb28 l' p' q1 q2 q3 q4 good _ Ha27.out Hb28.out HQ.out).mono ?_); rintro e w74_ ⟨AQ, cQ, rfl, Hq0, hb⟩; refine ⟨_, rfl, ?_⟩
          replace Ha27 := Lib.hid (Ha27.out.next hb)
          replace Hb28 := Lib.hid (Hb28.out.next hb)
          replace HL := Lib.hid (below_step HL.out hb); clear hb
          have Hq := Lib.hid Hq0; clear Hq0
          refine hK.out _ _ ⟨(KA.out.next HL.out).c4, (KB.out.next HL.out).c4⟩ (fun hHeld => ?_); clear hK K; refine S.w 79 ?_
          refine S.p 11 5 74 63 HT_.out rfl rfl ?_
          refine S.p 11 6 80 127 HT_.out rfl rfl ?_
          refine S.p 11 7 81 255 HT_.out rfl rfl ?_
          refine S.o 11 8 13 511 HT_.out rfl rfl (fun K hK => ?_)
          refine box_step ?hg (N := 13) ?hd (cs := #[.int .i64 0, .string (⟨#[]⟩ : ByteArray), .slice none 0 0, .int .i64 0]) (t := 38) ?hr ?_; (case hd => rfl); (case hg => rfl); (case hr => first | (go_simp; done) | (go_simp; rfl)); intro gq hg w75_ hbox hb
          have HG := Lib.hid (Nat.le_trans (below_size HL.out) (Nat.le_of_eq hg.symm)); have HZ := Lib.hid hbox; have HGL := Lib.hid (blk_lt hbox)
          replace Ha27 := Lib.hid (CS.far Ha27.out hb (Nat.le_of_eq hg.symm))
          replace Hb28 := Lib.hid (CS.far Hb28.out hb (Nat.le_of_eq hg.symm))
          replace Hq := Lib.hid (CS.far Hq.out hb (Nat.le_of_eq hg.symm))
          replace HL := Lib.hid (below_step HL.out hb); clear hb hg hbox
          refine hK.out _ _ ⟨(KA.out.next HL.out).c4, (KB.out.next HL.out).c4⟩ (fun hHeld => ?_); clear hK K; refine S.w 13 ?_
          exact norm_ (by simp only [putAll, Act.put, List.setIfInBounds_toArray, List.set_cons_zero, List.set_cons_succ]) (hCont (Aa27, ca27, Ab28, cb28, AQ, cQ, gq) _ ⟨hHeld, HL.out, HG.out, HZ.out, Hq.out⟩)
        · skip
          refine box_step ?hg (N := 13) ?hd (cs := #[.int .i64 0, .string (⟨#[]⟩ : ByteArray), .slice none 0 0, .int .i64 0]) (t := 38) ?hr ?_; (case hd => rfl); (case hg => rfl); (case hr => first | (go_simp; done) | (go_simp; rfl)); intro gq hg w76_ hbox hb
          have HG := Lib.hid (Nat.le_trans (below_size HL.out) (Nat.le_of_eq hg.symm)); have HZ := Lib.hid hbox; have HGL := Lib.hid (blk_lt hbox)
          replace Ha27 := Lib.hid (CS.far Ha27.out hb (Nat.le_of_eq hg.symm))
          replace Hb28 := Lib.hid (CS.far Hb28.out hb (Nat.le_of_eq hg.symm))
          replace HL := Lib.hid (below_step HL.out hb); clear hb hg hbox
          refine hK.out _ _ ⟨(KA.out.next HL.out).c4, (KB.out.next HL.out).c4⟩ (fun hHeld => ?_); clear hK K; refine S.w 13 ?_
          refine S.o 11 4 79 287 HT_.out rfl rfl (fun K hK => ?_)
          refine S.g Try.func17 #[.agg #[.int .i64 h, .string n, .slice Aa27 l.length ca27, .int .i64 p], .agg #[.int .i64 h', .string n', .slice Ab28 l'.length cb28, .int .i64 p']] rfl rfl ?_; (with_reducible refine (runion_n k h n Aa27 ca27 l p h' n' Ab28 cb28 l' p' q1 q2 q3 q4 good _ gq Ha27.out Hb28.out HGL.out HQ.out).mono ?_); rintro e w77_ ⟨AQ, cQ, rfl, Hq0, hb⟩; refine ⟨_, rfl, ?_⟩
          replace Ha27 := Lib.hid (Ha27.out.next hb)
          replace Hb28 := Lib.hid (Hb28.out.next hb)
          replace HL := Lib.hid (below_step HL.out hb); replace HZ := Lib.hid (blk_below HZ.out hb); replace HGL := Lib.hid (Nat.lt_of_lt_of_le HGL.out hb.size); clear hb
          have Hq := Lib.hid Hq0; clear Hq0
          refine hK.out _ _ ⟨(KA.out.next HL.out).c4, (KB.out.next HL.out).c4⟩ (fun hHeld => ?_); clear hK K; refine S.w 79 ?_
          refine S.p 11 5 74 319 HT_.out rfl rfl ?_
          refine S.p 11 6 80 383 HT_.out rfl rfl ?_
          refine S.p 11 7 81 511 HT_.out rfl rfl ?_
          exact norm_ (by simp only [putAll, Act.put, List.setIfInBounds_toArray, List.set_cons_zero, List.set_cons_succ]) (hCont (Aa27, ca27, Ab28, cb28, AQ, cQ, gq) _ ⟨hHeld, HL.out, HG.out, HZ.out, Hq.out⟩)
      · skip
        refine box_step ?hg (N := 13) ?hd (cs := #[.int .i64 0, .string (⟨#[]⟩ : ByteArray), .slice none 0 0, .int .i64 0]) (t := 38) ?hr ?_; (case hd => rfl); (case hg => rfl); (case hr => first | (go_simp; done) | (go_simp; rfl)); intro gq hg w78_ hbox hb
        have HG := Lib.hid (Nat.le_trans (below_size HL.out) (Nat.le_of_eq hg.symm)); have HZ := Lib.hid hbox; have HGL := Lib.hid (blk_lt hbox)
        replace Ha27 := Lib.hid (CS.far Ha27.out hb (Nat.le_of_eq hg.symm))
        replace HL := Lib.hid (below_step HL.out hb); clear hb hg hbox
        refine hK.out _ _ ⟨(KA.out.next HL.out).c4, (KB.out.next HL.out).c4⟩ (fun hHeld => ?_); clear hK K; refine S.w 13 ?_
        refine S.o 11 3 78 271 HT_.out rfl rfl (fun K hK => ?_)
        refine S.g Try.func15 #[.agg #[.int .i64 h', .string n', .slice A' l'.length c', .int .i64 p']] rfl rfl ?_; (with_reducible refine (of_n h' n' A' c' l' p' _ gq (CS.far KB.out.cs HL.out HG.out) HGL.out).mono ?_); rintro e w79_ ⟨Ab28, cb28, rfl, Hb280, hb⟩; refine ⟨_, rfl, ?_⟩
        replace Ha27 := Lib.hid (Ha27.out.next hb)
        replace HL := Lib.hid (below_step HL.out hb); replace HZ := Lib.hid (blk_below HZ.out hb); replace HGL := Lib.hid (Nat.lt_of_lt_of_le HGL.out hb.size); clear hb
        have Hb28 := Lib.hid Hb280; clear Hb280
        refine hK.out _ _ ⟨(KA.out.next HL.out).c4, (KB.out.next HL.out).c4⟩ (fun hHeld => ?_); clear hK K; refine S.w 78 ?_
        refine S.o 11 4 79 287 HT_.out rfl rfl (fun K hK => ?_)
        refine S.g Try.func17 #[.agg #[.int .i64 h, .string n, .slice Aa27 l.length ca27, .int .i64 p], .agg #[.int .i64 h', .string n', .slice Ab28 l'.length cb28, .int .i64 p']] rfl rfl ?_; (with_reducible refine (runion_n k h n Aa27 ca27 l p h' n' Ab28 cb28 l' p' q1 q2 q3 q4 good _ gq Ha27.out Hb28.out HGL.out HQ.out).mono ?_); rintro e w80_ ⟨AQ, cQ, rfl, Hq0, hb⟩; refine ⟨_, rfl, ?_⟩
        replace Ha27 := Lib.hid (Ha27.out.next hb)
        replace Hb28 := Lib.hid (Hb28.out.next hb)
        replace HL := Lib.hid (below_step HL.out hb); replace HZ := Lib.hid (blk_below HZ.out hb); replace HGL := Lib.hid (Nat.lt_of_lt_of_le HGL.out hb.size); clear hb
        have Hq := Lib.hid Hq0; clear Hq0
        refine hK.out _ _ ⟨(KA.out.next HL.out).c4, (KB.out.next HL.out).c4⟩ (fun hHeld => ?_); clear hK K; refine S.w 79 ?_
        refine S.p 11 5 74 319 HT_.out rfl rfl ?_
        refine S.p 11 6 80 383 HT_.out rfl rfl ?_
        refine S.p 11 7 81 511 HT_.out rfl rfl ?_
        exact norm_ (by simp only [putAll, Act.put, List.setIfInBounds_toArray, List.set_cons_zero, List.set_cons_succ]) (hCont (Aa27, ca27, Ab28, cb28, AQ, cQ, gq) _ ⟨hHeld, HL.out, HG.out, HZ.out, Hq.out⟩)
    · skip
      refine box_step ?hg (N := 13) ?hd (cs := #[.int .i64 0, .string (⟨#[]⟩ : ByteArray), .slice none 0 0, .int .i64 0]) (t := 38) ?hr ?_; (case hd => rfl); (case hg => rfl); (case hr => first | (go_simp; done) | (go_simp; rfl)); intro gq hg w81_ hbox hb
      have HG := Lib.hid (Nat.le_trans (below_size HL.out) (Nat.le_of_eq hg.symm)); have HZ := Lib.hid hbox; have HGL := Lib.hid (blk_lt hbox)
      replace HL := Lib.hid (below_step HL.out hb); clear hb hg hbox
      refine hK.out _ _ ⟨(KA.out.next HL.out).c4, (KB.out.next HL.out).c4⟩ (fun hHeld => ?_); clear hK K; refine S.w 13 ?_
      refine S.o 11 1 76 263 HT_.out rfl rfl (fun K hK => ?_)
      refine S.g Try.func15 #[.agg #[.int .i64 h, .string n, .slice A l.length c, .int .i64 p]] rfl rfl ?_; (with_reducible refine (of_n h n A c l p _ gq (CS.far KA.out.cs HL.out HG.out) HGL.out).mono ?_); rintro e w82_ ⟨Aa27, ca27, rfl, Ha270, hb⟩; refine ⟨_, rfl, ?_⟩
      replace HL := Lib.hid (below_step HL.out hb); replace HZ := Lib.hid (blk_below HZ.out hb); replace HGL := Lib.hid (Nat.lt_of_lt_of_le HGL.out hb.size); clear hb
      have Ha27 := Lib.hid Ha270; clear Ha270
      refine hK.out _ _ ⟨(KA.out.next HL.out).c4, (KB.out.next HL.out).c4⟩ (fun hHeld => ?_); clear hK K; refine S.w 76 ?_
      refine S.o 11 3 78 271 HT_.out rfl rfl (fun K hK => ?_)
      refine S.g Try.func15 #[.agg #[.int .i64 h', .string n', .slice A' l'.length c', .int .i64 p']] rfl rfl ?_; (with_reducible refine (of_n h' n' A' c' l' p' _ gq (CS.far KB.out.cs HL.out HG.out) HGL.out).mono ?_); rintro e w83_ ⟨Ab28, cb28, rfl, Hb280, hb⟩; refine ⟨_, rfl, ?_⟩
      replace Ha27 := Lib.hid (Ha27.out.next hb)
      replace HL := Lib.hid (below_step HL.out hb); replace HZ := Lib.hid (blk_below HZ.out hb); replace HGL := Lib.hid (Nat.lt_of_lt_of_le HGL.out hb.size); clear hb
      have Hb28 := Lib.hid Hb280; clear Hb280
      refine hK.out _ _ ⟨(KA.out.next HL.out).c4, (KB.out.next HL.out).c4⟩ (fun hHeld => ?_); clear hK K; refine S.w 78 ?_
      refine S.o 11 4 79 287 HT_.out rfl rfl (fun K hK => ?_)
      refine S.g Try.func17 #[.agg #[.int .i64 h, .string n, .slice Aa27 l.length ca27, .int .i64 p], .agg #[.int .i64 h', .string n', .slice Ab28 l'.length cb28, .int .i64 p']] rfl rfl ?_; (with_reducible refine (runion_n k h n Aa27 ca27 l p h' n' Ab28 cb28 l' p' q1 q2 q3 q4 good _ gq Ha27.out Hb28.out HGL.out HQ.out).mono ?_); rintro e w84_ ⟨AQ, cQ, rfl, Hq0, hb⟩; refine ⟨_, rfl, ?_⟩
      replace Ha27 := Lib.hid (Ha27.out.next hb)
      replace Hb28 := Lib.hid (Hb28.out.next hb)
      replace HL := Lib.hid (below_step HL.out hb); replace HZ := Lib.hid (blk_below HZ.out hb); replace HGL := Lib.hid (Nat.lt_of_lt_of_le HGL.out hb.size); clear hb
      have Hq := Lib.hid Hq0; clear Hq0
      refine hK.out _ _ ⟨(KA.out.next HL.out).c4, (KB.out.next HL.out).c4⟩ (fun hHeld => ?_); clear hK K; refine S.w 79 ?_
      refine S.p 11 5 74 319 HT_.out rfl rfl ?_
      refine S.p 11 6 80 383 HT_.out rfl rfl ?_
      refine S.p 11 7 81 511 HT_.out rfl rfl ?_
      exact norm_ (by simp only [putAll, Act.put, List.setIfInBounds_toArray, List.set_cons_zero, List.set_cons_succ]) (hCont (Aa27, ca27, Ab28, cb28, AQ, cQ, gq) _ ⟨hHeld, HL.out, HG.out, HZ.out, Hq.out⟩)
  rintro ⟨A1_, c1_, A2_, c2_, AQ, cQ, gq⟩ w85_ ⟨hHeld, hl_, hg_, hz_, hn_⟩; dsimp only at hHeld hl_ hg_ hz_ hn_; clear HL
  have HL := Lib.hid hl_; have HG := Lib.hid hg_; have HZ := Lib.hid hz_; have HN := Lib.hid hn_; clear hl_ hg_ hz_ hn_
  refine norm_ (a' := ?_) ?_ ?_; rotate_left
  ·simp only [putAll, Act.put, List.setIfInBounds_toArray, List.set_cons_zero, List.set_cons_succ]; rfl
  refine one_ (i := 9) (N := none) (S.um 11 1023) rfl rfl (one_of HT_.out (by kernel_rfl)) (by decide) (fun K hK => ?_)
  have hz0 := (blk_cell HZ.out 0).trans rfl; have hz1 := (blk_cell HZ.out 1).trans rfl; have hz2 := (blk_cell HZ.out 2).trans rfl; have hz3 := (blk_cell HZ.out 3).trans rfl; have hf0 := blk_frozen HZ.out 0; have hf1 := blk_frozen HZ.out 1; have hf2 := blk_frozen HZ.out 2; have hf3 := blk_frozen HZ.out 3
  refine skip_ (w1 := ?_) (by rfl) rfl ?_ ?_; rotate_left
  ·go_simp; rfl
  clear hz0 hz1 hz2 hz3 hf0 hf1 hf2 hf3
  refine hK.out _ _ ⟨(KA.out.next (b4 HL.out HG.out)).c4, (KB.out.next (b4 HL.out HG.out)).c4⟩ (fun hHeld => ?_); clear hK K
  refine S.p 11 10 14 2047 HT_.out rfl rfl ?_
  refine done_ (done_of HT_.out (by kernel_rfl)) ?_; clear HT_ HW_ hHeld
  have KQ : Bk ((((w85_.setCell ⟨gq, 0, none⟩ (.int .i64 q1)).setCell ⟨gq, 1, none⟩ (.string q2)).setCell ⟨gq, 2, none⟩ (.slice AQ q3.length cQ)).setCell ⟨gq, 3, none⟩ (.int .i64 q4)) gq 38 q1 q2 AQ cQ q3 q4 := ⟨blk4 HZ.out, n4 HN.out⟩
  replace HL := Lib.hid (b4 (v0 := .int .i64 q1) (v1 := .string q2) (v2 := .slice AQ q3.length cQ) (v3 := .int .i64 q4) HL.out HG.out); clear HZ HN HG
  generalize (((w85_.setCell ⟨gq, 0, none⟩ (.int .i64 q1)).setCell ⟨gq, 1, none⟩ (.string q2)).setCell ⟨gq, 2, none⟩ (.slice AQ q3.length cQ)).setCell ⟨gq, 3, none⟩ (.int .i64 q4) = w86_ at KQ HL ⊢; replace KQ := Lib.hid KQ
  replace KA := Lib.hid (KA.out.next HL.out)
  replace KB := Lib.hid (KB.out.next HL.out)
  replace KX := Lib.hid (KX.out.next HL.out)
  replace KY := Lib.hid (KY.out.next HL.out)
  replace KP := Lib.hid (KP.out.next HL.out)
  replace HB := Lib.hid (below_step HB.out HL.out); clear HL
  (try go_wp2_with (fail))
  replace KA := Lib.hid (KA.out.next (below_drew1 (Below.refl w86_.heap.size w86_)))
  replace KB := Lib.hid (KB.out.next (below_drew1 (Below.refl w86_.heap.size w86_)))
  replace KX := Lib.hid (KX.out.next (below_drew1 (Below.refl w86_.heap.size w86_)))
  replace KY := Lib.hid (KY.out.next (below_drew1 (Below.refl w86_.heap.size w86_)))
  replace KP := Lib.hid (KP.out.next (below_drew1 (Below.refl w86_.heap.size w86_)))
  replace KQ := Lib.hid (KQ.out.next (below_drew1 (Below.refl w86_.heap.size w86_)))
  replace HB := Lib.hid (below_drew1 HB.out)
  refine start_ (n := 40) (S := fun w' => C4 w' w.heap.size (.int .i64 h) (.string n) (.slice A l.length c) (.int .i64 p) ∧ C4 w' (w.heap.size + 1) (.int .i64 h') (.string n') (.slice A' l'.length c') (.int .i64 p')) (ds := []) (S.um 40 0) (by kernel_rfl) rfl rfl ⟨KA.out.c4, KB.out.c4⟩ (fun hHeld => ?_); refine with_tabW wptab13 wpbits13 (fun HT_ HW_ => ?_)
  generalize w86_.drew = w87_ at HB KA KB KX KY KP KQ hHeld ⊢
  have HL := Lib.hid (Below.refl w87_.heap.size w87_)
  refine S.p 40 1 83 2 HT_.out rfl rfl ?_
  refine S.p 40 5 87 34 HT_.out rfl rfl ?_
  refine S.t 40 0 82 35 HT_.out HW_.out rfl rfl hHeld ?_
  refine S.t 40 3 85 43 HT_.out HW_.out rfl rfl hHeld ?_
  refine S.o 40 2 84 47 HT_.out rfl rfl (fun K hK => ?_)
  refine S.g Try.func9 #[.agg #[.int .i64 h, .string n, .slice A l.length c, .int .i64 p], .string s] rfl rfl ?_; (with_reducible refine (allows_c k h n A c l p s _ _ (KA.out.next HL.out).cs HAa.out).mono ?_); rintro e w88_ ⟨rfl, hb⟩; refine ⟨_, rfl, ?_⟩
  replace HL := Lib.hid (below_step HL.out hb); clear hb
  refine hK.out _ _ ⟨(KA.out.next HL.out).c4, (KB.out.next HL.out).c4⟩ (fun hHeld => ?_); clear hK K; refine S.w 84 ?_
  refine S.o 40 4 86 63 HT_.out rfl rfl (fun K hK => ?_)
  refine S.g Try.func15 #[.agg #[.int .i64 h, .string n, .slice A l.length c, .int .i64 p]] rfl rfl ?_; (with_reducible refine (of_c h n A c l p _ (KA.out.next HL.out).cs).mono ?_); rintro e w89_ ⟨Aa49, ca49, rfl, Ha490, hb⟩; refine ⟨_, rfl, ?_⟩
  replace HL := Lib.hid (below_step HL.out hb); clear hb
  have Ha49 := Lib.hid Ha490; clear Ha490
  refine hK.out _ _ ⟨(KA.out.next HL.out).c4, (KB.out.next HL.out).c4⟩ (fun hHeld => ?_); clear hK K; refine S.w 86 ?_
  refine S.o 40 6 88 127 HT_.out rfl rfl (fun K hK => ?_)
  refine S.g Try.func18 #[.agg #[.int .i64 h, .string n, .slice Aa49 l.length ca49, .int .i64 p], .string s] rfl rfl ?_; (with_reducible refine (rallows_c k h n Aa49 ca49 l p s _ _ Ha49.out HBa.out).mono ?_); rintro e w90_ ⟨rfl, hb⟩; refine ⟨_, rfl, ?_⟩
  replace Ha49 := Lib.hid (Ha49.out.next hb)
  replace HL := Lib.hid (below_step HL.out hb); clear hb
  clear Ha49
  refine hK.out _ _ ⟨(KA.out.next HL.out).c4, (KB.out.next HL.out).c4⟩ (fun hHeld => ?_); clear hK K; refine S.w 88 ?_
  refine S.p 40 7 89 255 HT_.out rfl rfl ?_
  refine S.p 40 8 90 511 HT_.out rfl rfl ?_
  refine S.t 40 9 91 1023 HT_.out HW_.out rfl rfl hHeld ?_
  refine S.t 40 10 92 2047 HT_.out HW_.out rfl rfl hHeld ?_
  refine S.t 40 12 94 6143 HT_.out HW_.out rfl rfl hHeld ?_
  refine S.t 40 14 96 22527 HT_.out HW_.out rfl rfl hHeld ?_
  refine S.o 40 11 93 24575 HT_.out rfl rfl (fun K hK => ?_)
  refine S.g Try.func13 #[.agg #[.int .i64 h, .string n, .slice A l.length c, .int .i64 p], .agg #[.int .i64 h', .string n', .slice A' l'.length c', .int .i64 p']] rfl rfl ?_; (with_reducible refine (sub_c k h n A c l p h' n' A' c' l' p' _ _ (KA.out.next HL.out).cs (KB.out.next HL.out).cs HSa.out).mono ?_); rintro e w91_ ⟨rfl, hb⟩; refine ⟨_, rfl, ?_⟩
  replace HL := Lib.hid (below_step HL.out hb); clear hb
  refine hK.out _ _ ⟨(KA.out.next HL.out).c4, (KB.out.next HL.out).c4⟩ (fun hHeld => ?_); clear hK K; refine S.w 93 ?_
  refine S.o 40 13 95 32767 HT_.out rfl rfl (fun K hK => ?_)
  refine S.g Try.func15 #[.agg #[.int .i64 h, .string n, .slice A l.length c, .int .i64 p]] rfl rfl ?_; (with_reducible refine (of_c h n A c l p _ (KA.out.next HL.out).cs).mono ?_); rintro e w92_ ⟨Aa50, ca50, rfl, Ha500, hb⟩; refine ⟨_, rfl, ?_⟩
  replace HL := Lib.hid (below_step HL.out hb); clear hb
  have Ha50 := Lib.hid Ha500; clear Ha500
  refine hK.out _ _ ⟨(KA.out.next HL.out).c4, (KB.out.next HL.out).c4⟩ (fun hHeld => ?_); clear hK K; refine S.w 95 ?_
  refine S.o 40 15 97 65535 HT_.out rfl rfl (fun K hK => ?_)
  refine S.g Try.func15 #[.agg #[.int .i64 h', .string n', .slice A' l'.length c', .int .i64 p']] rfl rfl ?_; (with_reducible refine (of_c h' n' A' c' l' p' _ (KB.out.next HL.out).cs).mono ?_); rintro e w93_ ⟨Ab51, cb51, rfl, Hb510, hb⟩; refine ⟨_, rfl, ?_⟩
  replace Ha50 := Lib.hid (Ha50.out.next hb)
  replace HL := Lib.hid (below_step HL.out hb); clear hb
  have Hb51 := Lib.hid Hb510; clear Hb510
  refine hK.out _ _ ⟨(KA.out.next HL.out).c4, (KB.out.next HL.out).c4⟩ (fun hHeld => ?_); clear hK K; refine S.w 97 ?_
  refine S.o 40 16 98 131071 HT_.out rfl rfl (fun K hK => ?_)
  refine S.g Try.func19 #[.agg #[.int .i64 h, .string n, .slice Aa50 l.length ca50, .int .i64 p], .agg #[.int .i64 h', .string n', .slice Ab51 l'.length cb51, .int .i64 p']] rfl rfl ?_; (with_reducible refine (rsub_c k h n Aa50 ca50 l p h' n' Ab51 cb51 l' p' _ _ Ha50.out Hb51.out HTa.out).mono ?_); rintro e w94_ ⟨rfl, hb⟩; refine ⟨_, rfl, ?_⟩
  replace Ha50 := Lib.hid (Ha50.out.next hb)
  replace Hb51 := Lib.hid (Hb51.out.next hb)
  replace HL := Lib.hid (below_step HL.out hb); clear hb
  clear Ha50
  clear Hb51
  refine hK.out _ _ ⟨(KA.out.next HL.out).c4, (KB.out.next HL.out).c4⟩ (fun hHeld => ?_); clear hK K; refine S.w 98 ?_
  refine S.p 40 17 99 262143 HT_.out rfl rfl ?_
  refine S.p 40 18 100 524287 HT_.out rfl rfl ?_
  refine S.p 40 19 101 1048575 HT_.out rfl rfl ?_
  refine S.t 40 20 102 2097151 HT_.out HW_.out rfl rfl hHeld ?_
  refine S.t 40 21 103 4194303 HT_.out HW_.out rfl rfl hHeld ?_
  refine S.t 40 23 105 12582911 HT_.out HW_.out rfl rfl hHeld ?_
  refine S.t 40 25 107 46137343 HT_.out HW_.out rfl rfl hHeld ?_
  refine S.o 40 22 104 50331647 HT_.out rfl rfl (fun K hK => ?_)
  refine S.g Try.func20 #[.agg #[.int .i64 h, .string n, .slice A l.length c, .int .i64 p], .agg #[.int .i64 h', .string n', .slice A' l'.length c', .int .i64 p']] rfl rfl ?_; (with_reducible refine (same_c k h n A c l p h' n' A' c' l' p' _ _ (KA.out.next HL.out).cs (KB.out.next HL.out).cs HMa.out).mono ?_); rintro e w95_ ⟨rfl, hb⟩; refine ⟨_, rfl, ?_⟩
  replace HL := Lib.hid (below_step HL.out hb); clear hb
  refine hK.out _ _ ⟨(KA.out.next HL.out).c4, (KB.out.next HL.out).c4⟩ (fun hHeld => ?_); clear hK K; refine S.w 104 ?_
  refine S.o 40 24 106 67108863 HT_.out rfl rfl (fun K hK => ?_)
  refine S.g Try.func15 #[.agg #[.int .i64 h, .string n, .slice A l.length c, .int .i64 p]] rfl rfl ?_; (with_reducible refine (of_c h n A c l p _ (KA.out.next HL.out).cs).mono ?_); rintro e w96_ ⟨Aa52, ca52, rfl, Ha520, hb⟩; refine ⟨_, rfl, ?_⟩
  replace HL := Lib.hid (below_step HL.out hb); clear hb
  have Ha52 := Lib.hid Ha520; clear Ha520
  refine hK.out _ _ ⟨(KA.out.next HL.out).c4, (KB.out.next HL.out).c4⟩ (fun hHeld => ?_); clear hK K; refine S.w 106 ?_
  refine S.o 40 26 108 134217727 HT_.out rfl rfl (fun K hK => ?_)
  refine S.g Try.func15 #[.agg #[.int .i64 h', .string n', .slice A' l'.length c', .int .i64 p']] rfl rfl ?_; (with_reducible refine (of_c h' n' A' c' l' p' _ (KB.out.next HL.out).cs).mono ?_); rintro e w97_ ⟨Ab53, cb53, rfl, Hb530, hb⟩; refine ⟨_, rfl, ?_⟩
  replace Ha52 := Lib.hid (Ha52.out.next hb)
  replace HL := Lib.hid (below_step HL.out hb); clear hb
  have Hb53 := Lib.hid Hb530; clear Hb530
  refine hK.out _ _ ⟨(KA.out.next HL.out).c4, (KB.out.next HL.out).c4⟩ (fun hHeld => ?_); clear hK K; refine S.w 108 ?_
  refine S.o 40 27 109 268435455 HT_.out rfl rfl (fun K hK => ?_)
  refine S.g Try.func21 #[.agg #[.int .i64 h, .string n, .slice Aa52 l.length ca52, .int .i64 p], .agg #[.int .i64 h', .string n', .slice Ab53 l'.length cb53, .int .i64 p']] rfl rfl ?_; (with_reducible refine (rsame_c k h n Aa52 ca52 l p h' n' Ab53 cb53 l' p' _ _ Ha52.out Hb53.out HNa.out).mono ?_); rintro e w98_ ⟨rfl, hb⟩; refine ⟨_, rfl, ?_⟩
  replace Ha52 := Lib.hid (Ha52.out.next hb)
  replace Hb53 := Lib.hid (Hb53.out.next hb)
  replace HL := Lib.hid (below_step HL.out hb); clear hb
  clear Ha52
  clear Hb53
  refine hK.out _ _ ⟨(KA.out.next HL.out).c4, (KB.out.next HL.out).c4⟩ (fun hHeld => ?_); clear hK K; refine S.w 109 ?_
  refine S.p 40 28 110 536870911 HT_.out rfl rfl ?_
  refine S.p 40 29 111 1073741823 HT_.out rfl rfl ?_
  refine S.p 40 30 112 2147483647 HT_.out rfl rfl ?_
  refine S.p 40 31 113 4294967295 HT_.out rfl rfl ?_
  refine S.p 40 32 114 8589934591 HT_.out rfl rfl ?_
  refine S.p 40 33 115 17179869183 HT_.out rfl rfl ?_
  refine S.p 40 34 116 34359738367 HT_.out rfl rfl ?_
  refine S.p 40 35 117 68719476735 HT_.out rfl rfl ?_
  refine S.p 40 36 118 137438953471 HT_.out rfl rfl ?_
  refine S.p 40 37 119 274877906943 HT_.out rfl rfl ?_
  refine S.p 40 38 120 549755813887 HT_.out rfl rfl ?_
  refine S.p 40 39 121 1099511627775 HT_.out rfl rfl ?_
  refine done_ (done_of HT_.out (by kernel_rfl)) ?_; clear HT_ HW_ hHeld
  replace KA := Lib.hid (KA.out.next HL.out)
  replace KB := Lib.hid (KB.out.next HL.out)
  replace KX := Lib.hid (KX.out.next HL.out)
  replace KY := Lib.hid (KY.out.next HL.out)
  replace KP := Lib.hid (KP.out.next HL.out)
  replace KQ := Lib.hid (KQ.out.next HL.out)
  replace HB := Lib.hid (below_step HB.out HL.out); clear HL
  cases ok with
  | true =>
    replace HXs := Lib.hid (HXs.out rfl)
    replace HXr := Lib.hid (HXr.out rfl)
    replace HXa := Lib.hid (HXa.out rfl)
    cases good with
    | true =>
      replace HPs := Lib.hid (HPs.out rfl)
      replace HPr := Lib.hid (HPr.out rfl)
      replace HPa := Lib.hid (HPa.out rfl)
      cases aa with
      | true =>
        replace HXa : RowKit.Hid (Pr.wild_Allows.f k x1 x2 x3 x4 s = some bb) := Lib.hid HXa.out
        replace HPa : RowKit.Hid (Pr.wild_Allows.f k p1 p2 p3 p4 s = some true) := Lib.hid HPa.out
        (try go_wp2_with (fail))
        replace KA := Lib.hid (KA.out.next (below_drew1 (Below.refl w98_.heap.size w98_)))
        replace KB := Lib.hid (KB.out.next (below_drew1 (Below.refl w98_.heap.size w98_)))
        replace KX := Lib.hid (KX.out.next (below_drew1 (Below.refl w98_.heap.size w98_)))
        replace KY := Lib.hid (KY.out.next (below_drew1 (Below.refl w98_.heap.size w98_)))
        replace KP := Lib.hid (KP.out.next (below_drew1 (Below.refl w98_.heap.size w98_)))
        replace KQ := Lib.hid (KQ.out.next (below_drew1 (Below.refl w98_.heap.size w98_)))
        replace HB := Lib.hid (below_drew1 HB.out)
        refine start_ (n := 27) (S := fun w' => C4 w' gx (.int .i64 x1) (.string x2) (.slice AX x3.length cX) (.int .i64 x4) ∧ C4 w' gy (.int .i64 y1) (.string y2) (.slice AY y3.length cY) (.int .i64 y4) ∧ C4 w' w.heap.size (.int .i64 h) (.string n) (.slice A l.length c) (.int .i64 p) ∧ C4 w' (w.heap.size + 1) (.int .i64 h') (.string n') (.slice A' l'.length c') (.int .i64 p')) (ds := []) (S.um 27 0) (by kernel_rfl) rfl rfl ⟨KX.out.c4, KY.out.c4, KA.out.c4, KB.out.c4⟩ (fun hHeld => ?_); refine with_tabW wptab15 wpbits15 (fun HT_ HW_ => ?_)
        generalize w98_.drew = w99_ at HB KA KB KX KY KP KQ hHeld ⊢
        have HL := Lib.hid (Below.refl w99_.heap.size w99_)
        refine S.p 27 0 122 1 HT_.out rfl rfl ?_
        refine S.p 27 1 123 3 HT_.out rfl rfl ?_
        refine S.t 27 2 124 7 HT_.out HW_.out rfl rfl hHeld ?_
        refine S.t 27 4 126 23 HT_.out HW_.out rfl rfl hHeld ?_
        refine S.o 27 3 125 31 HT_.out rfl rfl (fun K hK => ?_)
        refine S.g Try.func15 #[.agg #[.int .i64 x1, .string x2, .slice AX x3.length cX, .int .i64 x4]] rfl rfl ?_; (with_reducible refine (of_c x1 x2 AX cX x3 x4 _ (KX.out.next HL.out).cs).mono ?_); rintro e w100_ ⟨Ax54, cx54, rfl, Hx540, hb⟩; refine ⟨_, rfl, ?_⟩
        replace HL := Lib.hid (below_step HL.out hb); clear hb
        have Hx54 := Lib.hid Hx540; clear Hx540
        refine hK.out _ _ ⟨(KX.out.next HL.out).c4, (KY.out.next HL.out).c4, (KA.out.next HL.out).c4, (KB.out.next HL.out).c4⟩ (fun hHeld => ?_); clear hK K; refine S.w 125 ?_
        refine S.o 27 5 127 63 HT_.out rfl rfl (fun K hK => ?_)
        refine S.g Try.func21 #[.agg #[.int .i64 x1, .string x2, .slice Ax54 x3.length cx54, .int .i64 x4], .agg #[.int .i64 y1, .string y2, .slice AY y3.length cY, .int .i64 y4]] rfl rfl ?_; (with_reducible refine (rsame_c k x1 x2 Ax54 cx54 x3 x4 y1 y2 AY cY y3 y4 _ _ Hx54.out (KY.out.next HL.out).cs HXs.out).mono ?_); rintro e w101_ ⟨rfl, hb⟩; refine ⟨_, rfl, ?_⟩
        replace Hx54 := Lib.hid (Hx54.out.next hb)
        replace HL := Lib.hid (below_step HL.out hb); clear hb
        clear Hx54
        refine hK.out _ _ ⟨(KX.out.next HL.out).c4, (KY.out.next HL.out).c4, (KA.out.next HL.out).c4, (KB.out.next HL.out).c4⟩ (fun hHeld => ?_); clear hK K; refine S.w 127 ?_
        refine S.p 27 6 128 127 HT_.out rfl rfl ?_
        refine S.p 27 7 129 255 HT_.out rfl rfl ?_
        refine S.t 27 8 130 511 HT_.out HW_.out rfl rfl hHeld ?_
        refine S.o 27 9 131 1023 HT_.out rfl rfl (fun K hK => ?_)
        refine S.g Try.func11 #[.agg #[.int .i64 x1, .string x2, .slice AX x3.length cX, .int .i64 x4]] rfl rfl ?_; (with_reducible refine (right_c k x1 x2 AX cX x3 x4 _ _ (KX.out.next HL.out).cs HXr.out).mono ?_); rintro e w102_ ⟨rfl, hb⟩; refine ⟨_, rfl, ?_⟩
        replace HL := Lib.hid (below_step HL.out hb); clear hb
        refine hK.out _ _ ⟨(KX.out.next HL.out).c4, (KY.out.next HL.out).c4, (KA.out.next HL.out).c4, (KB.out.next HL.out).c4⟩ (fun hHeld => ?_); clear hK K; refine S.w 131 ?_
        refine S.p 27 10 132 2047 HT_.out rfl rfl ?_
        refine S.p 27 11 133 4095 HT_.out rfl rfl ?_
        refine S.p 27 12 134 8191 HT_.out rfl rfl ?_
        refine S.p 27 14 136 24575 HT_.out rfl rfl ?_
        refine S.p 27 17 139 155647 HT_.out rfl rfl ?_
        refine S.t 27 13 135 163839 HT_.out HW_.out rfl rfl hHeld ?_
        refine S.t 27 16 138 229375 HT_.out HW_.out rfl rfl hHeld ?_
        refine S.o 27 15 137 262143 HT_.out rfl rfl (fun K hK => ?_)
        refine S.g Try.func9 #[.agg #[.int .i64 x1, .string x2, .slice AX x3.length cX, .int .i64 x4], .string s] rfl rfl ?_; (with_reducible refine (allows_c k x1 x2 AX cX x3 x4 s _ _ (KX.out.next HL.out).cs HXa.out).mono ?_); rintro e w103_ ⟨rfl, hb⟩; refine ⟨_, rfl, ?_⟩
        replace HL := Lib.hid (below_step HL.out hb); clear hb
        refine hK.out _ _ ⟨(KX.out.next HL.out).c4, (KY.out.next HL.out).c4, (KA.out.next HL.out).c4, (KB.out.next HL.out).c4⟩ (fun hHeld => ?_); clear hK K; refine S.w 137 ?_
        refine S.o 27 18 140 524287 HT_.out rfl rfl (fun K hK => ?_)
        refine S.g Try.func9 #[.agg #[.int .i64 h, .string n, .slice A l.length c, .int .i64 p], .string s] rfl rfl ?_; (with_reducible refine (allows_c k h n A c l p s _ _ (KA.out.next HL.out).cs HAa.out).mono ?_); rintro e w104_ ⟨rfl, hb⟩; refine ⟨_, rfl, ?_⟩
        replace HL := Lib.hid (below_step HL.out hb); clear hb
        refine hK.out _ _ ⟨(KX.out.next HL.out).c4, (KY.out.next HL.out).c4, (KA.out.next HL.out).c4, (KB.out.next HL.out).c4⟩ (fun hHeld => ?_); clear hK K; refine S.w 140 ?_
        refine S.p 27 19 141 1048575 HT_.out rfl rfl ?_
        refine S.p 27 21 143 3145727 HT_.out rfl rfl ?_
        refine S.t 27 20 142 4194303 HT_.out HW_.out rfl rfl hHeld ?_
        refine S.o 27 22 144 8388607 HT_.out rfl rfl (fun K hK => ?_)
        refine S.g Try.func9 #[.agg #[.int .i64 h', .string n', .slice A' l'.length c', .int .i64 p'], .string s] rfl rfl ?_; (with_reducible refine (allows_c k h' n' A' c' l' p' s _ _ (KB.out.next HL.out).cs HAb.out).mono ?_); rintro e w105_ ⟨rfl, hb⟩; refine ⟨_, rfl, ?_⟩
        replace HL := Lib.hid (below_step HL.out hb); clear hb
        refine hK.out _ _ ⟨(KX.out.next HL.out).c4, (KY.out.next HL.out).c4, (KA.out.next HL.out).c4, (KB.out.next HL.out).c4⟩ (fun hHeld => ?_); clear hK K; refine S.w 144 ?_
        refine S.p 27 23 145 16777215 HT_.out rfl rfl ?_
        refine S.p 27 24 146 33554431 HT_.out rfl rfl ?_
        refine S.p 27 25 147 67108863 HT_.out rfl rfl ?_
        refine S.p 27 26 148 134217727 HT_.out rfl rfl ?_
        refine done_ (done_of HT_.out (by kernel_rfl)) ?_; clear HT_ HW_ hHeld
        replace KA := Lib.hid (KA.out.next HL.out)
        replace KB := Lib.hid (KB.out.next HL.out)
        replace KX := Lib.hid (KX.out.next HL.out)
        replace KY := Lib.hid (KY.out.next HL.out)
        replace KP := Lib.hid (KP.out.next HL.out)
        replace KQ := Lib.hid (KQ.out.next HL.out)
        replace HB := Lib.hid (below_step HB.out HL.out); clear HL
        (try go_wp2_with (fail))
        replace KA := Lib.hid (KA.out.next (below_drew1 (Below.refl w105_.heap.size w105_)))
        replace KB := Lib.hid (KB.out.next (below_drew1 (Below.refl w105_.heap.size w105_)))
        replace KX := Lib.hid (KX.out.next (below_drew1 (Below.refl w105_.heap.size w105_)))
        replace KY := Lib.hid (KY.out.next (below_drew1 (Below.refl w105_.heap.size w105_)))
        replace KP := Lib.hid (KP.out.next (below_drew1 (Below.refl w105_.heap.size w105_)))
        replace KQ := Lib.hid (KQ.out.next (below_drew1 (Below.refl w105_.heap.size w105_)))
        replace HB := Lib.hid (below_drew1 HB.out)
        refine start_ (n := 27) (S := fun w' => C4 w' gp (.int .i64 p1) (.string p2) (.slice AP p3.length cP) (.int .i64 p4) ∧ C4 w' gq (.int .i64 q1) (.string q2) (.slice AQ q3.length cQ) (.int .i64 q4) ∧ C4 w' w.heap.size (.int .i64 h) (.string n) (.slice A l.length c) (.int .i64 p) ∧ C4 w' (w.heap.size + 1) (.int .i64 h') (.string n') (.slice A' l'.length c') (.int .i64 p')) (ds := []) (S.um 27 0) (by kernel_rfl) rfl rfl ⟨KP.out.c4, KQ.out.c4, KA.out.c4, KB.out.c4⟩ (fun hHeld => ?_); refine with_tabW wptab17 wpbits17 (fun HT_ HW_ => ?_)
        generalize w105_.drew = w106_ at HB KA KB KX KY KP KQ hHeld ⊢
        have HL := Lib.hid (Below.refl w106_.heap.size w106_)
        refine S.p 27 0 149 1 HT_.out rfl rfl ?_
        refine S.p 27 1 150 3 HT_.out rfl rfl ?_
        refine S.p 27 2 151 7 HT_.out rfl rfl ?_
        refine S.t 27 3 152 15 HT_.out HW_.out rfl rfl hHeld ?_
        refine S.t 27 5 154 47 HT_.out HW_.out rfl rfl hHeld ?_
        refine S.o 27 4 153 63 HT_.out rfl rfl (fun K hK => ?_)
        refine S.g Try.func15 #[.agg #[.int .i64 p1, .string p2, .slice AP p3.length cP, .int .i64 p4]] rfl rfl ?_; (with_reducible refine (of_c p1 p2 AP cP p3 p4 _ (KP.out.next HL.out).cs).mono ?_); rintro e w107_ ⟨Ap55, cp55, rfl, Hp550, hb⟩; refine ⟨_, rfl, ?_⟩
        replace HL := Lib.hid (below_step HL.out hb); clear hb
        have Hp55 := Lib.hid Hp550; clear Hp550
        refine hK.out _ _ ⟨(KP.out.next HL.out).c4, (KQ.out.next HL.out).c4, (KA.out.next HL.out).c4, (KB.out.next HL.out).c4⟩ (fun hHeld => ?_); clear hK K; refine S.w 153 ?_
        refine S.o 27 6 155 127 HT_.out rfl rfl (fun K hK => ?_)
        refine S.g Try.func21 #[.agg #[.int .i64 p1, .string p2, .slice Ap55 p3.length cp55, .int .i64 p4], .agg #[.int .i64 q1, .string q2, .slice AQ q3.length cQ, .int .i64 q4]] rfl rfl ?_; (with_reducible refine (rsame_c k p1 p2 Ap55 cp55 p3 p4 q1 q2 AQ cQ q3 q4 _ _ Hp55.out (KQ.out.next HL.out).cs HPs.out).mono ?_); rintro e w108_ ⟨rfl, hb⟩; refine ⟨_, rfl, ?_⟩
        replace Hp55 := Lib.hid (Hp55.out.next hb)
        replace HL := Lib.hid (below_step HL.out hb); clear hb
        clear Hp55
        refine hK.out _ _ ⟨(KP.out.next HL.out).c4, (KQ.out.next HL.out).c4, (KA.out.next HL.out).c4, (KB.out.next HL.out).c4⟩ (fun hHeld => ?_); clear hK K; refine S.w 155 ?_
        refine S.p 27 7 156 255 HT_.out rfl rfl ?_
        refine S.t 27 8 157 511 HT_.out HW_.out rfl rfl hHeld ?_
        refine S.o 27 9 158 1023 HT_.out rfl rfl (fun K hK => ?_)
        refine S.g Try.func11 #[.agg #[.int .i64 p1, .string p2, .slice AP p3.length cP, .int .i64 p4]] rfl rfl ?_; (with_reducible refine (right_c k p1 p2 AP cP p3 p4 _ _ (KP.out.next HL.out).cs HPr.out).mono ?_); rintro e w109_ ⟨rfl, hb⟩; refine ⟨_, rfl, ?_⟩
        replace HL := Lib.hid (below_step HL.out hb); clear hb
        refine hK.out _ _ ⟨(KP.out.next HL.out).c4, (KQ.out.next HL.out).c4, (KA.out.next HL.out).c4, (KB.out.next HL.out).c4⟩ (fun hHeld => ?_); clear hK K; refine S.w 158 ?_
        refine S.p 27 10 159 2047 HT_.out rfl rfl ?_
        refine S.p 27 11 160 4095 HT_.out rfl rfl ?_
        refine S.p 27 13 162 12287 HT_.out rfl rfl ?_
        refine S.p 27 16 165 77823 HT_.out rfl rfl ?_
        refine S.t 27 12 161 81919 HT_.out HW_.out rfl rfl hHeld ?_
        refine S.t 27 15 164 114687 HT_.out HW_.out rfl rfl hHeld ?_
        refine S.o 27 14 163 131071 HT_.out rfl rfl (fun K hK => ?_)
        refine S.g Try.func9 #[.agg #[.int .i64 p1, .string p2, .slice AP p3.length cP, .int .i64 p4], .string s] rfl rfl ?_; (with_reducible refine (allows_c k p1 p2 AP cP p3 p4 s _ _ (KP.out.next HL.out).cs HPa.out).mono ?_); rintro e w110_ ⟨rfl, hb⟩; refine ⟨_, rfl, ?_⟩
        replace HL := Lib.hid (below_step HL.out hb); clear hb
        refine hK.out _ _ ⟨(KP.out.next HL.out).c4, (KQ.out.next HL.out).c4, (KA.out.next HL.out).c4, (KB.out.next HL.out).c4⟩ (fun hHeld => ?_); clear hK K; refine S.w 163 ?_
        refine S.o 27 17 166 262143 HT_.out rfl rfl (fun K hK => ?_)
        refine S.g Try.func9 #[.agg #[.int .i64 h, .string n, .slice A l.length c, .int .i64 p], .string s] rfl rfl ?_; (with_reducible refine (allows_c k h n A c l p s _ _ (KA.out.next HL.out).cs HAa.out).mono ?_); rintro e w111_ ⟨rfl, hb⟩; refine ⟨_, rfl, ?_⟩
        replace HL := Lib.hid (below_step HL.out hb); clear hb
        refine hK.out _ _ ⟨(KP.out.next HL.out).c4, (KQ.out.next HL.out).c4, (KA.out.next HL.out).c4, (KB.out.next HL.out).c4⟩ (fun hHeld => ?_); clear hK K; refine S.w 166 ?_
        refine S.p 27 18 167 524287 HT_.out rfl rfl ?_
        refine S.u 27 19 168 1048575 HT_.out rfl rfl ?_
        refine S.u 27 20 169 2097151 HT_.out rfl rfl ?_
        refine S.u 27 21 170 4194303 HT_.out rfl rfl ?_
        refine S.p 27 22 171 8388607 HT_.out rfl rfl ?_
        refine S.p 27 23 172 16777215 HT_.out rfl rfl ?_
        refine S.p 27 24 173 33554431 HT_.out rfl rfl ?_
        refine S.p 27 25 174 67108863 HT_.out rfl rfl ?_
        refine S.p 27 26 6 134217727 HT_.out rfl rfl ?_
        refine done_ (done_of HT_.out (by kernel_rfl)) ?_; clear HT_ HW_ hHeld
        (try go_wp2)
        go_ret
        exact ⟨by first | rfl | (simp; done), below_step HB.out HL.out⟩
      | false =>
        replace HXa : RowKit.Hid (Pr.wild_Allows.f k x1 x2 x3 x4 s = some false) := Lib.hid HXa.out
        replace HPa : RowKit.Hid (Pr.wild_Allows.f k p1 p2 p3 p4 s = some bb) := Lib.hid HPa.out
        (try go_wp2_with (fail))
        replace KA := Lib.hid (KA.out.next (below_drew1 (Below.refl w98_.heap.size w98_)))
        replace KB := Lib.hid (KB.out.next (below_drew1 (Below.refl w98_.heap.size w98_)))
        replace KX := Lib.hid (KX.out.next (below_drew1 (Below.refl w98_.heap.size w98_)))
        replace KY := Lib.hid (KY.out.next (below_drew1 (Below.refl w98_.heap.size w98_)))
        replace KP := Lib.hid (KP.out.next (below_drew1 (Below.refl w98_.heap.size w98_)))
        replace KQ := Lib.hid (KQ.out.next (below_drew1 (Below.refl w98_.heap.size w98_)))
        replace HB := Lib.hid (below_drew1 HB.out)
        refine start_ (n := 27) (S := fun w' => C4 w' gx (.int .i64 x1) (.string x2) (.slice AX x3.length cX) (.int .i64 x4) ∧ C4 w' gy (.int .i64 y1) (.string y2) (.slice AY y3.length cY) (.int .i64 y4) ∧ C4 w' w.heap.size (.int .i64 h) (.string n) (.slice A l.length c) (.int .i64 p) ∧ C4 w' (w.heap.size + 1) (.int .i64 h') (.string n') (.slice A' l'.length c') (.int .i64 p')) (ds := []) (S.um 27 0) (by kernel_rfl) rfl rfl ⟨KX.out.c4, KY.out.c4, KA.out.c4, KB.out.c4⟩ (fun hHeld => ?_); refine with_tabW wptab15 wpbits15 (fun HT_ HW_ => ?_)
        generalize w98_.drew = w112_ at HB KA KB KX KY KP KQ hHeld ⊢
        have HL := Lib.hid (Below.refl w112_.heap.size w112_)
        refine S.p 27 0 122 1 HT_.out rfl rfl ?_
        refine S.p 27 1 123 3 HT_.out rfl rfl ?_
        refine S.t 27 2 124 7 HT_.out HW_.out rfl rfl hHeld ?_
        refine S.t 27 4 126 23 HT_.out HW_.out rfl rfl hHeld ?_
        refine S.o 27 3 125 31 HT_.out rfl rfl (fun K hK => ?_)
        refine S.g Try.func15 #[.agg #[.int .i64 x1, .string x2, .slice AX x3.length cX, .int .i64 x4]] rfl rfl ?_; (with_reducible refine (of_c x1 x2 AX cX x3 x4 _ (KX.out.next HL.out).cs).mono ?_); rintro e w113_ ⟨Ax54, cx54, rfl, Hx540, hb⟩; refine ⟨_, rfl, ?_⟩
        replace HL := Lib.hid (below_step HL.out hb); clear hb
        have Hx54 := Lib.hid Hx540; clear Hx540
        refine hK.out _ _ ⟨(KX.out.next HL.out).c4, (KY.out.next HL.out).c4, (KA.out.next HL.out).c4, (KB.out.next HL.out).c4⟩ (fun hHeld => ?_); clear hK K; refine S.w 125 ?_
        refine S.o 27 5 127 63 HT_.out rfl rfl (fun K hK => ?_)
        refine S.g Try.func21 #[.agg #[.int .i64 x1, .string x2, .slice Ax54 x3.length cx54, .int .i64 x4], .agg #[.int .i64 y1, .string y2, .slice AY y3.length cY, .int .i64 y4]] rfl rfl ?_; (with_reducible refine (rsame_c k x1 x2 Ax54 cx54 x3 x4 y1 y2 AY cY y3 y4 _ _ Hx54.out (KY.out.next HL.out).cs HXs.out).mono ?_); rintro e w114_ ⟨rfl, hb⟩; refine ⟨_, rfl, ?_⟩
        replace Hx54 := Lib.hid (Hx54.out.next hb)
        replace HL := Lib.hid (below_step HL.out hb); clear hb
        clear Hx54
        refine hK.out _ _ ⟨(KX.out.next HL.out).c4, (KY.out.next HL.out).c4, (KA.out.next HL.out).c4, (KB.out.next HL.out).c4⟩ (fun hHeld => ?_); clear hK K; refine S.w 127 ?_
        refine S.p 27 6 128 127 HT_.out rfl rfl ?_
        refine S.p 27 7 129 255 HT_.out rfl rfl ?_
        refine S.t 27 8 130 511 HT_.out HW_.out rfl rfl hHeld ?_
        refine S.o 27 9 131 1023 HT_.out rfl rfl (fun K hK => ?_)
        refine S.g Try.func11 #[.agg #[.int .i64 x1, .string x2, .slice AX x3.length cX, .int .i64 x4]] rfl rfl ?_; (with_reducible refine (right_c k x1 x2 AX cX x3 x4 _ _ (KX.out.next HL.out).cs HXr.out).mono ?_); rintro e w115_ ⟨rfl, hb⟩; refine ⟨_, rfl, ?_⟩
        replace HL := Lib.hid (below_step HL.out hb); clear hb
        refine hK.out _ _ ⟨(KX.out.next HL.out).c4, (KY.out.next HL.out).c4, (KA.out.next HL.out).c4, (KB.out.next HL.out).c4⟩ (fun hHeld => ?_); clear hK K; refine S.w 131 ?_
        refine S.p 27 10 132 2047 HT_.out rfl rfl ?_
        refine S.p 27 11 133 4095 HT_.out rfl rfl ?_
        refine S.p 27 12 134 8191 HT_.out rfl rfl ?_
        refine S.p 27 14 136 24575 HT_.out rfl rfl ?_
        refine S.p 27 17 139 155647 HT_.out rfl rfl ?_
        refine S.t 27 13 135 163839 HT_.out HW_.out rfl rfl hHeld ?_
        refine S.t 27 16 138 229375 HT_.out HW_.out rfl rfl hHeld ?_
        refine S.o 27 15 137 262143 HT_.out rfl rfl (fun K hK => ?_)
        refine S.g Try.func9 #[.agg #[.int .i64 x1, .string x2, .slice AX x3.length cX, .int .i64 x4], .string s] rfl rfl ?_; (with_reducible refine (allows_c k x1 x2 AX cX x3 x4 s _ _ (KX.out.next HL.out).cs HXa.out).mono ?_); rintro e w116_ ⟨rfl, hb⟩; refine ⟨_, rfl, ?_⟩
        replace HL := Lib.hid (below_step HL.out hb); clear hb
        refine hK.out _ _ ⟨(KX.out.next HL.out).c4, (KY.out.next HL.out).c4, (KA.out.next HL.out).c4, (KB.out.next HL.out).c4⟩ (fun hHeld => ?_); clear hK K; refine S.w 137 ?_
        refine S.o 27 18 140 524287 HT_.out rfl rfl (fun K hK => ?_)
        refine S.g Try.func9 #[.agg #[.int .i64 h, .string n, .slice A l.length c, .int .i64 p], .string s] rfl rfl ?_; (with_reducible refine (allows_c k h n A c l p s _ _ (KA.out.next HL.out).cs HAa.out).mono ?_); rintro e w117_ ⟨rfl, hb⟩; refine ⟨_, rfl, ?_⟩
        replace HL := Lib.hid (below_step HL.out hb); clear hb
        refine hK.out _ _ ⟨(KX.out.next HL.out).c4, (KY.out.next HL.out).c4, (KA.out.next HL.out).c4, (KB.out.next HL.out).c4⟩ (fun hHeld => ?_); clear hK K; refine S.w 140 ?_
        refine S.p 27 19 141 1048575 HT_.out rfl rfl ?_
        refine S.u 27 20 142 2097151 HT_.out rfl rfl ?_
        refine S.u 27 21 143 4194303 HT_.out rfl rfl ?_
        refine S.u 27 22 144 8388607 HT_.out rfl rfl ?_
        refine S.p 27 23 145 16777215 HT_.out rfl rfl ?_
        refine S.p 27 24 146 33554431 HT_.out rfl rfl ?_
        refine S.p 27 25 147 67108863 HT_.out rfl rfl ?_
        refine S.p 27 26 148 134217727 HT_.out rfl rfl ?_
        refine done_ (done_of HT_.out (by kernel_rfl)) ?_; clear HT_ HW_ hHeld
        replace KA := Lib.hid (KA.out.next HL.out)
        replace KB := Lib.hid (KB.out.next HL.out)
        replace KX := Lib.hid (KX.out.next HL.out)
        replace KY := Lib.hid (KY.out.next HL.out)
        replace KP := Lib.hid (KP.out.next HL.out)
        replace KQ := Lib.hid (KQ.out.next HL.out)
        replace HB := Lib.hid (below_step HB.out HL.out); clear HL
        (try go_wp2_with (fail))
        replace KA := Lib.hid (KA.out.next (below_drew1 (Below.refl w117_.heap.size w117_)))
        replace KB := Lib.hid (KB.out.next (below_drew1 (Below.refl w117_.heap.size w117_)))
        replace KX := Lib.hid (KX.out.next (below_drew1 (Below.refl w117_.heap.size w117_)))
        replace KY := Lib.hid (KY.out.next (below_drew1 (Below.refl w117_.heap.size w117_)))
        replace KP := Lib.hid (KP.out.next (below_drew1 (Below.refl w117_.heap.size w117_)))
        replace KQ := Lib.hid (KQ.out.next (below_drew1 (Below.refl w117_.heap.size w117_)))
        replace HB := Lib.hid (below_drew1 HB.out)
        refine start_ (n := 27) (S := fun w' => C4 w' gp (.int .i64 p1) (.string p2) (.slice AP p3.length cP) (.int .i64 p4) ∧ C4 w' gq (.int .i64 q1) (.string q2) (.slice AQ q3.length cQ) (.int .i64 q4) ∧ C4 w' w.heap.size (.int .i64 h) (.string n) (.slice A l.length c) (.int .i64 p) ∧ C4 w' (w.heap.size + 1) (.int .i64 h') (.string n') (.slice A' l'.length c') (.int .i64 p')) (ds := []) (S.um 27 0) (by kernel_rfl) rfl rfl ⟨KP.out.c4, KQ.out.c4, KA.out.c4, KB.out.c4⟩ (fun hHeld => ?_); refine with_tabW wptab17 wpbits17 (fun HT_ HW_ => ?_)
        generalize w117_.drew = w118_ at HB KA KB KX KY KP KQ hHeld ⊢
        have HL := Lib.hid (Below.refl w118_.heap.size w118_)
        refine S.p 27 0 149 1 HT_.out rfl rfl ?_
        refine S.p 27 1 150 3 HT_.out rfl rfl ?_
        refine S.p 27 2 151 7 HT_.out rfl rfl ?_
        refine S.t 27 3 152 15 HT_.out HW_.out rfl rfl hHeld ?_
        refine S.t 27 5 154 47 HT_.out HW_.out rfl rfl hHeld ?_
        refine S.o 27 4 153 63 HT_.out rfl rfl (fun K hK => ?_)
        refine S.g Try.func15 #[.agg #[.int .i64 p1, .string p2, .slice AP p3.length cP, .int .i64 p4]] rfl rfl ?_; (with_reducible refine (of_c p1 p2 AP cP p3 p4 _ (KP.out.next HL.out).cs).mono ?_); rintro e w119_ ⟨Ap55, cp55, rfl, Hp550, hb⟩; refine ⟨_, rfl, ?_⟩
        replace HL := Lib.hid (below_step HL.out hb); clear hb
        have Hp55 := Lib.hid Hp550; clear Hp550
        refine hK.out _ _ ⟨(KP.out.next HL.out).c4, (KQ.out.next HL.out).c4, (KA.out.next HL.out).c4, (KB.out.next HL.out).c4⟩ (fun hHeld => ?_); clear hK K; refine S.w 153 ?_
        refine S.o 27 6 155 127 HT_.out rfl rfl (fun K hK => ?_)
        refine S.g Try.func21 #[.agg #[.int .i64 p1, .string p2, .slice Ap55 p3.length cp55, .int .i64 p4], .agg #[.int .i64 q1, .string q2, .slice AQ q3.length cQ, .int .i64 q4]] rfl rfl ?_; (with_reducible refine (rsame_c k p1 p2 Ap55 cp55 p3 p4 q1 q2 AQ cQ q3 q4 _ _ Hp55.out (KQ.out.next HL.out).cs HPs.out).mono ?_); rintro e w120_ ⟨rfl, hb⟩; refine ⟨_, rfl, ?_⟩
        replace Hp55 := Lib.hid (Hp55.out.next hb)
        replace HL := Lib.hid (below_step HL.out hb); clear hb
        clear Hp55
        refine hK.out _ _ ⟨(KP.out.next HL.out).c4, (KQ.out.next HL.out).c4, (KA.out.next HL.out).c4, (KB.out.next HL.out).c4⟩ (fun hHeld => ?_); clear hK K; refine S.w 155 ?_
        refine S.p 27 7 156 255 HT_.out rfl rfl ?_
        refine S.t 27 8 157 511 HT_.out HW_.out rfl rfl hHeld ?_
        refine S.o 27 9 158 1023 HT_.out rfl rfl (fun K hK => ?_)
        refine S.g Try.func11 #[.agg #[.int .i64 p1, .string p2, .slice AP p3.length cP, .int .i64 p4]] rfl rfl ?_; (with_reducible refine (right_c k p1 p2 AP cP p3 p4 _ _ (KP.out.next HL.out).cs HPr.out).mono ?_); rintro e w121_ ⟨rfl, hb⟩; refine ⟨_, rfl, ?_⟩
        replace HL := Lib.hid (below_step HL.out hb); clear hb
        refine hK.out _ _ ⟨(KP.out.next HL.out).c4, (KQ.out.next HL.out).c4, (KA.out.next HL.out).c4, (KB.out.next HL.out).c4⟩ (fun hHeld => ?_); clear hK K; refine S.w 158 ?_
        refine S.p 27 10 159 2047 HT_.out rfl rfl ?_
        refine S.p 27 11 160 4095 HT_.out rfl rfl ?_
        refine S.p 27 13 162 12287 HT_.out rfl rfl ?_
        refine S.p 27 16 165 77823 HT_.out rfl rfl ?_
        refine S.t 27 12 161 81919 HT_.out HW_.out rfl rfl hHeld ?_
        refine S.t 27 15 164 114687 HT_.out HW_.out rfl rfl hHeld ?_
        refine S.o 27 14 163 131071 HT_.out rfl rfl (fun K hK => ?_)
        refine S.g Try.func9 #[.agg #[.int .i64 p1, .string p2, .slice AP p3.length cP, .int .i64 p4], .string s] rfl rfl ?_; (with_reducible refine (allows_c k p1 p2 AP cP p3 p4 s _ _ (KP.out.next HL.out).cs HPa.out).mono ?_); rintro e w122_ ⟨rfl, hb⟩; refine ⟨_, rfl, ?_⟩
        replace HL := Lib.hid (below_step HL.out hb); clear hb
        refine hK.out _ _ ⟨(KP.out.next HL.out).c4, (KQ.out.next HL.out).c4, (KA.out.next HL.out).c4, (KB.out.next HL.out).c4⟩ (fun hHeld => ?_); clear hK K; refine S.w 163 ?_
        refine S.o 27 17 166 262143 HT_.out rfl rfl (fun K hK => ?_)
        refine S.g Try.func9 #[.agg #[.int .i64 h, .string n, .slice A l.length c, .int .i64 p], .string s] rfl rfl ?_; (with_reducible refine (allows_c k h n A c l p s _ _ (KA.out.next HL.out).cs HAa.out).mono ?_); rintro e w123_ ⟨rfl, hb⟩; refine ⟨_, rfl, ?_⟩
        replace HL := Lib.hid (below_step HL.out hb); clear hb
        refine hK.out _ _ ⟨(KP.out.next HL.out).c4, (KQ.out.next HL.out).c4, (KA.out.next HL.out).c4, (KB.out.next HL.out).c4⟩ (fun hHeld => ?_); clear hK K; refine S.w 166 ?_
        refine S.p 27 18 167 524287 HT_.out rfl rfl ?_
        refine S.p 27 20 169 1572863 HT_.out rfl rfl ?_
        refine S.t 27 19 168 2097151 HT_.out HW_.out rfl rfl hHeld ?_
        refine S.o 27 21 170 4194303 HT_.out rfl rfl (fun K hK => ?_)
        refine S.g Try.func9 #[.agg #[.int .i64 h', .string n', .slice A' l'.length c', .int .i64 p'], .string s] rfl rfl ?_; (with_reducible refine (allows_c k h' n' A' c' l' p' s _ _ (KB.out.next HL.out).cs HAb.out).mono ?_); rintro e w124_ ⟨rfl, hb⟩; refine ⟨_, rfl, ?_⟩
        replace HL := Lib.hid (below_step HL.out hb); clear hb
        refine hK.out _ _ ⟨(KP.out.next HL.out).c4, (KQ.out.next HL.out).c4, (KA.out.next HL.out).c4, (KB.out.next HL.out).c4⟩ (fun hHeld => ?_); clear hK K; refine S.w 170 ?_
        refine S.p 27 22 171 8388607 HT_.out rfl rfl ?_
        refine S.p 27 23 172 16777215 HT_.out rfl rfl ?_
        refine S.p 27 24 173 33554431 HT_.out rfl rfl ?_
        refine S.p 27 25 174 67108863 HT_.out rfl rfl ?_
        refine S.p 27 26 6 134217727 HT_.out rfl rfl ?_
        refine done_ (done_of HT_.out (by kernel_rfl)) ?_; clear HT_ HW_ hHeld
        (try go_wp2)
        go_ret
        exact ⟨by first | rfl | (simp; done), below_step HB.out HL.out⟩
    | false =>
      clear HPs
      clear HPr
      clear HPa
      cases aa with
      | true =>
        replace HXa : RowKit.Hid (Pr.wild_Allows.f k x1 x2 x3 x4 s = some bb) := Lib.hid HXa.out
        (try go_wp2_with (fail))
        replace KA := Lib.hid (KA.out.next (below_drew1 (Below.refl w98_.heap.size w98_)))
        replace KB := Lib.hid (KB.out.next (below_drew1 (Below.refl w98_.heap.size w98_)))
        replace KX := Lib.hid (KX.out.next (below_drew1 (Below.refl w98_.heap.size w98_)))
        replace KY := Lib.hid (KY.out.next (below_drew1 (Below.refl w98_.heap.size w98_)))
        replace KP := Lib.hid (KP.out.next (below_drew1 (Below.refl w98_.heap.size w98_)))
        replace KQ := Lib.hid (KQ.out.next (below_drew1 (Below.refl w98_.heap.size w98_)))
        replace HB := Lib.hid (below_drew1 HB.out)
        refine start_ (n := 27) (S := fun w' => C4 w' gx (.int .i64 x1) (.string x2) (.slice AX x3.length cX) (.int .i64 x4) ∧ C4 w' gy (.int .i64 y1) (.string y2) (.slice AY y3.length cY) (.int .i64 y4) ∧ C4 w' w.heap.size (.int .i64 h) (.string n) (.slice A l.length c) (.int .i64 p) ∧ C4 w' (w.heap.size + 1) (.int .i64 h') (.string n') (.slice A' l'.length c') (.int .i64 p')) (ds := []) (S.um 27 0) (by kernel_rfl) rfl rfl ⟨KX.out.c4, KY.out.c4, KA.out.c4, KB.out.c4⟩ (fun hHeld => ?_); refine with_tabW wptab15 wpbits15 (fun HT_ HW_ => ?_)
        generalize w98_.drew = w125_ at HB KA KB KX KY KP KQ hHeld ⊢
        have HL := Lib.hid (Below.refl w125_.heap.size w125_)
        refine S.p 27 0 122 1 HT_.out rfl rfl ?_
        refine S.p 27 1 123 3 HT_.out rfl rfl ?_
        refine S.t 27 2 124 7 HT_.out HW_.out rfl rfl hHeld ?_
        refine S.t 27 4 126 23 HT_.out HW_.out rfl rfl hHeld ?_
        refine S.o 27 3 125 31 HT_.out rfl rfl (fun K hK => ?_)
        refine S.g Try.func15 #[.agg #[.int .i64 x1, .string x2, .slice AX x3.length cX, .int .i64 x4]] rfl rfl ?_; (with_reducible refine (of_c x1 x2 AX cX x3 x4 _ (KX.out.next HL.out).cs).mono ?_); rintro e w126_ ⟨Ax54, cx54, rfl, Hx540, hb⟩; refine ⟨_, rfl, ?_⟩
        replace HL := Lib.hid (below_step HL.out hb); clear hb
        have Hx54 := Lib.hid Hx540; clear Hx540
        refine hK.out _ _ ⟨(KX.out.next HL.out).c4, (KY.out.next HL.out).c4, (KA.out.next HL.out).c4, (KB.out.next HL.out).c4⟩ (fun hHeld => ?_); clear hK K; refine S.w 125 ?_
        refine S.o 27 5 127 63 HT_.out rfl rfl (fun K hK => ?_)
        refine S.g Try.func21 #[.agg #[.int .i64 x1, .string x2, .slice Ax54 x3.length cx54, .int .i64 x4], .agg #[.int .i64 y1, .string y2, .slice AY y3.length cY, .int .i64 y4]] rfl rfl ?_; (with_reducible refine (rsame_c k x1 x2 Ax54 cx54 x3 x4 y1 y2 AY cY y3 y4 _ _ Hx54.out (KY.out.next HL.out).cs HXs.out).mono ?_); rintro e w127_ ⟨rfl, hb⟩; refine ⟨_, rfl, ?_⟩
        replace Hx54 := Lib.hid (Hx54.out.next hb)
        replace HL := Lib.hid (below_step HL.out hb); clear hb
        clear Hx54
        refine hK.out _ _ ⟨(KX.out.next HL.out).c4, (KY.out.next HL.out).c4, (KA.out.next HL.out).c4, (KB.out.next HL.out).c4⟩ (fun hHeld => ?_); clear hK K; refine S.w 127 ?_
        refine S.p 27 6 128 127 HT_.out rfl rfl ?_
        refine S.p 27 7 129 255 HT_.out rfl rfl ?_
        refine S.t 27 8 130 511 HT_.out HW_.out rfl rfl hHeld ?_
        refine S.o 27 9 131 1023 HT_.out rfl rfl (fun K hK => ?_)
        refine S.g Try.func11 #[.agg #[.int .i64 x1, .string x2, .slice AX x3.length cX, .int .i64 x4]] rfl rfl ?_; (with_reducible refine (right_c k x1 x2 AX cX x3 x4 _ _ (KX.out.next HL.out).cs HXr.out).mono ?_); rintro e w128_ ⟨rfl, hb⟩; refine ⟨_, rfl, ?_⟩
        replace HL := Lib.hid (below_step HL.out hb); clear hb
        refine hK.out _ _ ⟨(KX.out.next HL.out).c4, (KY.out.next HL.out).c4, (KA.out.next HL.out).c4, (KB.out.next HL.out).c4⟩ (fun hHeld => ?_); clear hK K; refine S.w 131 ?_
        refine S.p 27 10 132 2047 HT_.out rfl rfl ?_
        refine S.p 27 11 133 4095 HT_.out rfl rfl ?_
        refine S.p 27 12 134 8191 HT_.out rfl rfl ?_
        refine S.p 27 14 136 24575 HT_.out rfl rfl ?_
        refine S.p 27 17 139 155647 HT_.out rfl rfl ?_
        refine S.t 27 13 135 163839 HT_.out HW_.out rfl rfl hHeld ?_
        refine S.t 27 16 138 229375 HT_.out HW_.out rfl rfl hHeld ?_
        refine S.o 27 15 137 262143 HT_.out rfl rfl (fun K hK => ?_)
        refine S.g Try.func9 #[.agg #[.int .i64 x1, .string x2, .slice AX x3.length cX, .int .i64 x4], .string s] rfl rfl ?_; (with_reducible refine (allows_c k x1 x2 AX cX x3 x4 s _ _ (KX.out.next HL.out).cs HXa.out).mono ?_); rintro e w129_ ⟨rfl, hb⟩; refine ⟨_, rfl, ?_⟩
        replace HL := Lib.hid (below_step HL.out hb); clear hb
        refine hK.out _ _ ⟨(KX.out.next HL.out).c4, (KY.out.next HL.out).c4, (KA.out.next HL.out).c4, (KB.out.next HL.out).c4⟩ (fun hHeld => ?_); clear hK K; refine S.w 137 ?_
        refine S.o 27 18 140 524287 HT_.out rfl rfl (fun K hK => ?_)
        refine S.g Try.func9 #[.agg #[.int .i64 h, .string n, .slice A l.length c, .int .i64 p], .string s] rfl rfl ?_; (with_reducible refine (allows_c k h n A c l p s _ _ (KA.out.next HL.out).cs HAa.out).mono ?_); rintro e w130_ ⟨rfl, hb⟩; refine ⟨_, rfl, ?_⟩
        replace HL := Lib.hid (below_step HL.out hb); clear hb
        refine hK.out _ _ ⟨(KX.out.next HL.out).c4, (KY.out.next HL.out).c4, (KA.out.next HL.out).c4, (KB.out.next HL.out).c4⟩ (fun hHeld => ?_); clear hK K; refine S.w 140 ?_
        refine S.p 27 19 141 1048575 HT_.out rfl rfl ?_
        refine S.p 27 21 143 3145727 HT_.out rfl rfl ?_
        refine S.t 27 20 142 4194303 HT_.out HW_.out rfl rfl hHeld ?_
        refine S.o 27 22 144 8388607 HT_.out rfl rfl (fun K hK => ?_)
        refine S.g Try.func9 #[.agg #[.int .i64 h', .string n', .slice A' l'.length c', .int .i64 p'], .string s] rfl rfl ?_; (with_reducible refine (allows_c k h' n' A' c' l' p' s _ _ (KB.out.next HL.out).cs HAb.out).mono ?_); rintro e w131_ ⟨rfl, hb⟩; refine ⟨_, rfl, ?_⟩
        replace HL := Lib.hid (below_step HL.out hb); clear hb
        refine hK.out _ _ ⟨(KX.out.next HL.out).c4, (KY.out.next HL.out).c4, (KA.out.next HL.out).c4, (KB.out.next HL.out).c4⟩ (fun hHeld => ?_); clear hK K; refine S.w 144 ?_
        refine S.p 27 23 145 16777215 HT_.out rfl rfl ?_
        refine S.p 27 24 146 33554431 HT_.out rfl rfl ?_
        refine S.p 27 25 147 67108863 HT_.out rfl rfl ?_
        refine S.p 27 26 148 134217727 HT_.out rfl rfl ?_
        refine done_ (done_of HT_.out (by kernel_rfl)) ?_; clear HT_ HW_ hHeld
        replace KA := Lib.hid (KA.out.next HL.out)
        replace KB := Lib.hid (KB.out.next HL.out)
        replace KX := Lib.hid (KX.out.next HL.out)
        replace KY := Lib.hid (KY.out.next HL.out)
        replace KP := Lib.hid (KP.out.next HL.out)
        replace KQ := Lib.hid (KQ.out.next HL.out)
        replace HB := Lib.hid (below_step HB.out HL.out); clear HL
        (try go_wp2_with (fail))
        replace KA := Lib.hid (KA.out.next (below_drew1 (Below.refl w131_.heap.size w131_)))
        replace KB := Lib.hid (KB.out.next (below_drew1 (Below.refl w131_.heap.size w131_)))
        replace KX := Lib.hid (KX.out.next (below_drew1 (Below.refl w131_.heap.size w131_)))
        replace KY := Lib.hid (KY.out.next (below_drew1 (Below.refl w131_.heap.size w131_)))
        replace KP := Lib.hid (KP.out.next (below_drew1 (Below.refl w131_.heap.size w131_)))
        replace KQ := Lib.hid (KQ.out.next (below_drew1 (Below.refl w131_.heap.size w131_)))
        replace HB := Lib.hid (below_drew1 HB.out)
        refine start_ (n := 27) (S := fun w' => C4 w' gp (.int .i64 p1) (.string p2) (.slice AP p3.length cP) (.int .i64 p4) ∧ C4 w' gq (.int .i64 q1) (.string q2) (.slice AQ q3.length cQ) (.int .i64 q4) ∧ C4 w' w.heap.size (.int .i64 h) (.string n) (.slice A l.length c) (.int .i64 p) ∧ C4 w' (w.heap.size + 1) (.int .i64 h') (.string n') (.slice A' l'.length c') (.int .i64 p')) (ds := []) (S.um 27 0) (by kernel_rfl) rfl rfl ⟨KP.out.c4, KQ.out.c4, KA.out.c4, KB.out.c4⟩ (fun hHeld => ?_); refine with_tabW wptab17 wpbits17 (fun HT_ HW_ => ?_)
        generalize w131_.drew = w132_ at HB KA KB KX KY KP KQ hHeld ⊢
        have HL := Lib.hid (Below.refl w132_.heap.size w132_)
        refine S.p 27 0 149 1 HT_.out rfl rfl ?_
        refine S.p 27 1 150 3 HT_.out rfl rfl ?_
        refine S.p 27 2 151 7 HT_.out rfl rfl ?_
        refine S.u 27 3 152 15 HT_.out rfl rfl ?_
        refine S.u 27 4 153 31 HT_.out rfl rfl ?_
        refine S.u 27 5 154 63 HT_.out rfl rfl ?_
        refine S.u 27 6 155 127 HT_.out rfl rfl ?_
        refine S.u 27 7 156 255 HT_.out rfl rfl ?_
        refine S.u 27 8 157 511 HT_.out rfl rfl ?_
        refine S.u 27 9 158 1023 HT_.out rfl rfl ?_
        refine S.u 27 10 159 2047 HT_.out rfl rfl ?_
        refine S.u 27 11 160 4095 HT_.out rfl rfl ?_
        refine S.u 27 12 161 8191 HT_.out rfl rfl ?_
        refine S.u 27 13 162 16383 HT_.out rfl rfl ?_
        refine S.u 27 14 163 32767 HT_.out rfl rfl ?_
        refine S.u 27 15 164 65535 HT_.out rfl rfl ?_
        refine S.u 27 16 165 131071 HT_.out rfl rfl ?_
        refine S.u 27 17 166 262143 HT_.out rfl rfl ?_
        refine S.u 27 18 167 524287 HT_.out rfl rfl ?_
        refine S.u 27 19 168 1048575 HT_.out rfl rfl ?_
        refine S.u 27 20 169 2097151 HT_.out rfl rfl ?_
        refine S.u 27 21 170 4194303 HT_.out rfl rfl ?_
        refine S.u 27 22 171 8388607 HT_.out rfl rfl ?_
        refine S.u 27 23 172 16777215 HT_.out rfl rfl ?_
        refine S.u 27 24 173 33554431 HT_.out rfl rfl ?_
        refine S.p 27 25 174 67108863 HT_.out rfl rfl ?_
        refine S.p 27 26 6 134217727 HT_.out rfl rfl ?_
        refine done_ (done_of HT_.out (by kernel_rfl)) ?_; clear HT_ HW_ hHeld
        (try go_wp2)
        go_ret
        exact ⟨by first | rfl | (simp; done), below_step HB.out HL.out⟩
      | false =>
        replace HXa : RowKit.Hid (Pr.wild_Allows.f k x1 x2 x3 x4 s = some false) := Lib.hid HXa.out
        (try go_wp2_with (fail))
        replace KA := Lib.hid (KA.out.next (below_drew1 (Below.refl w98_.heap.size w98_)))
        replace KB := Lib.hid (KB.out.next (below_drew1 (Below.refl w98_.heap.size w98_)))
        replace KX := Lib.hid (KX.out.next (below_drew1 (Below.refl w98_.heap.size w98_)))
        replace KY := Lib.hid (KY.out.next (below_drew1 (Below.refl w98_.heap.size w98_)))
        replace KP := Lib.hid (KP.out.next (below_drew1 (Below.refl w98_.heap.size w98_)))
        replace KQ := Lib.hid (KQ.out.next (below_drew1 (Below.refl w98_.heap.size w98_)))
        replace HB := Lib.hid (below_drew1 HB.out)
        refine start_ (n := 27) (S := fun w' => C4 w' gx (.int .i64 x1) (.string x2) (.slice AX x3.length cX) (.int .i64 x4) ∧ C4 w' gy (.int .i64 y1) (.string y2) (.slice AY y3.length cY) (.int .i64 y4) ∧ C4 w' w.heap.size (.int .i64 h) (.string n) (.slice A l.length c) (.int .i64 p) ∧ C4 w' (w.heap.size + 1) (.int .i64 h') (.string n') (.slice A' l'.length c') (.int .i64 p')) (ds := []) (S.um 27 0) (by kernel_rfl) rfl rfl ⟨KX.out.c4, KY.out.c4, KA.out.c4, KB.out.c4⟩ (fun hHeld => ?_); refine with_tabW wptab15 wpbits15 (fun HT_ HW_ => ?_)
        generalize w98_.drew = w133_ at HB KA KB KX KY KP KQ hHeld ⊢
        have HL := Lib.hid (Below.refl w133_.heap.size w133_)
        refine S.p 27 0 122 1 HT_.out rfl rfl ?_
        refine S.p 27 1 123 3 HT_.out rfl rfl ?_
        refine S.t 27 2 124 7 HT_.out HW_.out rfl rfl hHeld ?_
        refine S.t 27 4 126 23 HT_.out HW_.out rfl rfl hHeld ?_
        refine S.o 27 3 125 31 HT_.out rfl rfl (fun K hK => ?_)
        refine S.g Try.func15 #[.agg #[.int .i64 x1, .string x2, .slice AX x3.length cX, .int .i64 x4]] rfl rfl ?_; (with_reducible refine (of_c x1 x2 AX cX x3 x4 _ (KX.out.next HL.out).cs).mono ?_); rintro e w134_ ⟨Ax54, cx54, rfl, Hx540, hb⟩; refine ⟨_, rfl, ?_⟩
        replace HL := Lib.hid (below_step HL.out hb); clear hb
        have Hx54 := Lib.hid Hx540; clear Hx540
        refine hK.out _ _ ⟨(KX.out.next HL.out).c4, (KY.out.next HL.out).c4, (KA.out.next HL.out).c4, (KB.out.next HL.out).c4⟩ (fun hHeld => ?_); clear hK K; refine S.w 125 ?_
        refine S.o 27 5 127 63 HT_.out rfl rfl (fun K hK => ?_)
        refine S.g Try.func21 #[.agg #[.int .i64 x1, .string x2, .slice Ax54 x3.length cx54, .int .i64 x4], .agg #[.int .i64 y1, .string y2, .slice AY y3.length cY, .int .i64 y4]] rfl rfl ?_; (with_reducible refine (rsame_c k x1 x2 Ax54 cx54 x3 x4 y1 y2 AY cY y3 y4 _ _ Hx54.out (KY.out.next HL.out).cs HXs.out).mono ?_); rintro e w135_ ⟨rfl, hb⟩; refine ⟨_, rfl, ?_⟩
        replace Hx54 := Lib.hid (Hx54.out.next hb)
        replace HL := Lib.hid (below_step HL.out hb); clear hb
        clear Hx54
        refine hK.out _ _ ⟨(KX.out.next HL.out).c4, (KY.out.next HL.out).c4, (KA.out.next HL.out).c4, (KB.out.next HL.out).c4⟩ (fun hHeld => ?_); clear hK K; refine S.w 127 ?_
        refine S.p 27 6 128 127 HT_.out rfl rfl ?_
        refine S.p 27 7 129 255 HT_.out rfl rfl ?_
        refine S.t 27 8 130 511 HT_.out HW_.out rfl rfl hHeld ?_
        refine S.o 27 9 131 1023 HT_.out rfl rfl (fun K hK => ?_)
        refine S.g Try.func11 #[.agg #[.int .i64 x1, .string x2, .slice AX x3.length cX, .int .i64 x4]] rfl rfl ?_; (with_reducible refine (right_c k x1 x2 AX cX x3 x4 _ _ (KX.out.next HL.out).cs HXr.out).mono ?_); rintro e w136_ ⟨rfl, hb⟩; refine ⟨_, rfl, ?_⟩
        replace HL := Lib.hid (below_step HL.out hb); clear hb
        refine hK.out _ _ ⟨(KX.out.next HL.out).c4, (KY.out.next HL.out).c4, (KA.out.next HL.out).c4, (KB.out.next HL.out).c4⟩ (fun hHeld => ?_); clear hK K; refine S.w 131 ?_
        refine S.p 27 10 132 2047 HT_.out rfl rfl ?_
        refine S.p 27 11 133 4095 HT_.out rfl rfl ?_
        refine S.p 27 12 134 8191 HT_.out rfl rfl ?_
        refine S.p 27 14 136 24575 HT_.out rfl rfl ?_
        refine S.p 27 17 139 155647 HT_.out rfl rfl ?_
        refine S.t 27 13 135 163839 HT_.out HW_.out rfl rfl hHeld ?_
        refine S.t 27 16 138 229375 HT_.out HW_.out rfl rfl hHeld ?_
        refine S.o 27 15 137 262143 HT_.out rfl rfl (fun K hK => ?_)
        refine S.g Try.func9 #[.agg #[.int .i64 x1, .string x2, .slice AX x3.length cX, .int .i64 x4], .string s] rfl rfl ?_; (with_reducible refine (allows_c k x1 x2 AX cX x3 x4 s _ _ (KX.out.next HL.out).cs HXa.out).mono ?_); rintro e w137_ ⟨rfl, hb⟩; refine ⟨_, rfl, ?_⟩
        replace HL := Lib.hid (below_step HL.out hb); clear hb
        refine hK.out _ _ ⟨(KX.out.next HL.out).c4, (KY.out.next HL.out).c4, (KA.out.next HL.out).c4, (KB.out.next HL.out).c4⟩ (fun hHeld => ?_); clear hK K; refine S.w 137 ?_
        refine S.o 27 18 140 524287 HT_.out rfl rfl (fun K hK => ?_)
        refine S.g Try.func9 #[.agg #[.int .i64 h, .string n, .slice A l.length c, .int .i64 p], .string s] rfl rfl ?_; (with_reducible refine (allows_c k h n A c l p s _ _ (KA.out.next HL.out).cs HAa.out).mono ?_); rintro e w138_ ⟨rfl, hb⟩; refine ⟨_, rfl, ?_⟩
        replace HL := Lib.hid (below_step HL.out hb); clear hb
        refine hK.out _ _ ⟨(KX.out.next HL.out).c4, (KY.out.next HL.out).c4, (KA.out.next HL.out).c4, (KB.out.next HL.out).c4⟩ (fun hHeld => ?_); clear hK K; refine S.w 140 ?_
        refine S.p 27 19 141 1048575 HT_.out rfl rfl ?_
        refine S.u 27 20 142 2097151 HT_.out rfl rfl ?_
        refine S.u 27 21 143 4194303 HT_.out rfl rfl ?_
        refine S.u 27 22 144 8388607 HT_.out rfl rfl ?_
        refine S.p 27 23 145 16777215 HT_.out rfl rfl ?_
        refine S.p 27 24 146 33554431 HT_.out rfl rfl ?_
        refine S.p 27 25 147 67108863 HT_.out rfl rfl ?_
        refine S.p 27 26 148 134217727 HT_.out rfl rfl ?_
        refine done_ (done_of HT_.out (by kernel_rfl)) ?_; clear HT_ HW_ hHeld
        replace KA := Lib.hid (KA.out.next HL.out)
        replace KB := Lib.hid (KB.out.next HL.out)
        replace KX := Lib.hid (KX.out.next HL.out)
        replace KY := Lib.hid (KY.out.next HL.out)
        replace KP := Lib.hid (KP.out.next HL.out)
        replace KQ := Lib.hid (KQ.out.next HL.out)
        replace HB := Lib.hid (below_step HB.out HL.out); clear HL
        (try go_wp2_with (fail))
        replace KA := Lib.hid (KA.out.next (below_drew1 (Below.refl w138_.heap.size w138_)))
        replace KB := Lib.hid (KB.out.next (below_drew1 (Below.refl w138_.heap.size w138_)))
        replace KX := Lib.hid (KX.out.next (below_drew1 (Below.refl w138_.heap.size w138_)))
        replace KY := Lib.hid (KY.out.next (below_drew1 (Below.refl w138_.heap.size w138_)))
        replace KP := Lib.hid (KP.out.next (below_drew1 (Below.refl w138_.heap.size w138_)))
        replace KQ := Lib.hid (KQ.out.next (below_drew1 (Below.refl w138_.heap.size w138_)))
        replace HB := Lib.hid (below_drew1 HB.out)
        refine start_ (n := 27) (S := fun w' => C4 w' gp (.int .i64 p1) (.string p2) (.slice AP p3.length cP) (.int .i64 p4) ∧ C4 w' gq (.int .i64 q1) (.string q2) (.slice AQ q3.length cQ) (.int .i64 q4) ∧ C4 w' w.heap.size (.int .i64 h) (.string n) (.slice A l.length c) (.int .i64 p) ∧ C4 w' (w.heap.size + 1) (.int .i64 h') (.string n') (.slice A' l'.length c') (.int .i64 p')) (ds := []) (S.um 27 0) (by kernel_rfl) rfl rfl ⟨KP.out.c4, KQ.out.c4, KA.out.c4, KB.out.c4⟩ (fun hHeld => ?_); refine with_tabW wptab17 wpbits17 (fun HT_ HW_ => ?_)
        generalize w138_.drew = w139_ at HB KA KB KX KY KP KQ hHeld ⊢
        have HL := Lib.hid (Below.refl w139_.heap.size w139_)
        refine S.p 27 0 149 1 HT_.out rfl rfl ?_
        refine S.p 27 1 150 3 HT_.out rfl rfl ?_
        refine S.p 27 2 151 7 HT_.out rfl rfl ?_
        refine S.u 27 3 152 15 HT_.out rfl rfl ?_
        refine S.u 27 4 153 31 HT_.out rfl rfl ?_
        refine S.u 27 5 154 63 HT_.out rfl rfl ?_
        refine S.u 27 6 155 127 HT_.out rfl rfl ?_
        refine S.u 27 7 156 255 HT_.out rfl rfl ?_
        refine S.u 27 8 157 511 HT_.out rfl rfl ?_
        refine S.u 27 9 158 1023 HT_.out rfl rfl ?_
        refine S.u 27 10 159 2047 HT_.out rfl rfl ?_
        refine S.u 27 11 160 4095 HT_.out rfl rfl ?_
        refine S.u 27 12 161 8191 HT_.out rfl rfl ?_
        refine S.u 27 13 162 16383 HT_.out rfl rfl ?_
        refine S.u 27 14 163 32767 HT_.out rfl rfl ?_
        refine S.u 27 15 164 65535 HT_.out rfl rfl ?_
        refine S.u 27 16 165 131071 HT_.out rfl rfl ?_
        refine S.u 27 17 166 262143 HT_.out rfl rfl ?_
        refine S.u 27 18 167 524287 HT_.out rfl rfl ?_
        refine S.u 27 19 168 1048575 HT_.out rfl rfl ?_
        refine S.u 27 20 169 2097151 HT_.out rfl rfl ?_
        refine S.u 27 21 170 4194303 HT_.out rfl rfl ?_
        refine S.u 27 22 171 8388607 HT_.out rfl rfl ?_
        refine S.u 27 23 172 16777215 HT_.out rfl rfl ?_
        refine S.u 27 24 173 33554431 HT_.out rfl rfl ?_
        refine S.p 27 25 174 67108863 HT_.out rfl rfl ?_
        refine S.p 27 26 6 134217727 HT_.out rfl rfl ?_
        refine done_ (done_of HT_.out (by kernel_rfl)) ?_; clear HT_ HW_ hHeld
        (try go_wp2)
        go_ret
        exact ⟨by first | rfl | (simp; done), below_step HB.out HL.out⟩
  | false =>
    clear HXs
    clear HXr
    clear HXa
    cases good with
    | true =>
      replace HPs := Lib.hid (HPs.out rfl)
      replace HPr := Lib.hid (HPr.out rfl)
      replace HPa := Lib.hid (HPa.out rfl)
      cases aa with
      | true =>
        replace HPa : RowKit.Hid (Pr.wild_Allows.f k p1 p2 p3 p4 s = some true) := Lib.hid HPa.out
        (try go_wp2_with (fail))
        replace KA := Lib.hid (KA.out.next (below_drew1 (Below.refl w98_.heap.size w98_)))
        replace KB := Lib.hid (KB.out.next (below_drew1 (Below.refl w98_.heap.size w98_)))
        replace KX := Lib.hid (KX.out.next (below_drew1 (Below.refl w98_.heap.size w98_)))
        replace KY := Lib.hid (KY.out.next (below_drew1 (Below.refl w98_.heap.size w98_)))
        replace KP := Lib.hid (KP.out.next (below_drew1 (Below.refl w98_.heap.size w98_)))
        replace KQ := Lib.hid (KQ.out.next (below_drew1 (Below.refl w98_.heap.size w98_)))
        replace HB := Lib.hid (below_drew1 HB.out)
        refine start_ (n := 27) (S := fun w' => C4 w' gx (.int .i64 x1) (.string x2) (.slice AX x3.length cX) (.int .i64 x4) ∧ C4 w' gy (.int .i64 y1) (.string y2) (.slice AY y3.length cY) (.int .i64 y4) ∧ C4 w' w.heap.size (.int .i64 h) (.string n) (.slice A l.length c) (.int .i64 p) ∧ C4 w' (w.heap.size + 1) (.int .i64 h') (.string n') (.slice A' l'.length c') (.int .i64 p')) (ds := []) (S.um 27 0) (by kernel_rfl) rfl rfl ⟨KX.out.c4, KY.out.c4, KA.out.c4, KB.out.c4⟩ (fun hHeld => ?_); refine with_tabW wptab15 wpbits15 (fun HT_ HW_ => ?_)
        generalize w98_.drew = w140_ at HB KA KB KX KY KP KQ hHeld ⊢
        have HL := Lib.hid (Below.refl w140_.heap.size w140_)
        refine S.p 27 0 122 1 HT_.out rfl rfl ?_
        refine S.p 27 1 123 3 HT_.out rfl rfl ?_
        refine S.u 27 2 124 7 HT_.out rfl rfl ?_
        refine S.u 27 3 125 15 HT_.out rfl rfl ?_
        refine S.u 27 4 126 31 HT_.out rfl rfl ?_
        refine S.u 27 5 127 63 HT_.out rfl rfl ?_
        refine S.u 27 6 128 127 HT_.out rfl rfl ?_
        refine S.u 27 7 129 255 HT_.out rfl rfl ?_
        refine S.u 27 8 130 511 HT_.out rfl rfl ?_
        refine S.u 27 9 131 1023 HT_.out rfl rfl ?_
        refine S.u 27 10 132 2047 HT_.out rfl rfl ?_
        refine S.u 27 11 133 4095 HT_.out rfl rfl ?_
        refine S.u 27 12 134 8191 HT_.out rfl rfl ?_
        refine S.u 27 13 135 16383 HT_.out rfl rfl ?_
        refine S.u 27 14 136 32767 HT_.out rfl rfl ?_
        refine S.u 27 15 137 65535 HT_.out rfl rfl ?_
        refine S.u 27 16 138 131071 HT_.out rfl rfl ?_
        refine S.u 27 17 139 262143 HT_.out rfl rfl ?_
        refine S.u 27 18 140 524287 HT_.out rfl rfl ?_
        refine S.u 27 19 141 1048575 HT_.out rfl rfl ?_
        refine S.u 27 20 142 2097151 HT_.out rfl rfl ?_
        refine S.u 27 21 143 4194303 HT_.out rfl rfl ?_
        refine S.u 27 22 144 8388607 HT_.out rfl rfl ?_
        refine S.u 27 23 145 16777215 HT_.out rfl rfl ?_
        refine S.u 27 24 146 33554431 HT_.out rfl rfl ?_
        refine S.u 27 25 147 67108863 HT_.out rfl rfl ?_
        refine S.p 27 26 148 134217727 HT_.out rfl rfl ?_
        refine done_ (done_of HT_.out (by kernel_rfl)) ?_; clear HT_ HW_ hHeld
        replace KA := Lib.hid (KA.out.next HL.out)
        replace KB := Lib.hid (KB.out.next HL.out)
        replace KX := Lib.hid (KX.out.next HL.out)
        replace KY := Lib.hid (KY.out.next HL.out)
        replace KP := Lib.hid (KP.out.next HL.out)
        replace KQ := Lib.hid (KQ.out.next HL.out)
        replace HB := Lib.hid (below_step HB.out HL.out); clear HL
        (try go_wp2_with (fail))
        replace KA := Lib.hid (KA.out.next (below_drew1 (Below.refl w140_.heap.size w140_)))
        replace KB := Lib.hid (KB.out.next (below_drew1 (Below.refl w140_.heap.size w140_)))
        replace KX := Lib.hid (KX.out.next (below_drew1 (Below.refl w140_.heap.size w140_)))
        replace KY := Lib.hid (KY.out.next (below_drew1 (Below.refl w140_.heap.size w140_)))
        replace KP := Lib.hid (KP.out.next (below_drew1 (Below.refl w140_.heap.size w140_)))
        replace KQ := Lib.hid (KQ.out.next (below_drew1 (Below.refl w140_.heap.size w140_)))
        replace HB := Lib.hid (below_drew1 HB.out)
        refine start_ (n := 27) (S := fun w' => C4 w' gp (.int .i64 p1) (.string p2) (.slice AP p3.length cP) (.int .i64 p4) ∧ C4 w' gq (.int .i64 q1) (.string q2) (.slice AQ q3.length cQ) (.int .i64 q4) ∧ C4 w' w.heap.size (.int .i64 h) (.string n) (.slice A l.length c) (.int .i64 p) ∧ C4 w' (w.heap.size + 1) (.int .i64 h') (.string n') (.slice A' l'.length c') (.int .i64 p')) (ds := []) (S.um 27 0) (by kernel_rfl) rfl rfl ⟨KP.out.c4, KQ.out.c4, KA.out.c4, KB.out.c4⟩ (fun hHeld => ?_); refine with_tabW wptab17 wpbits17 (fun HT_ HW_ => ?_)
        generalize w140_.drew = w141_ at HB KA KB KX KY KP KQ hHeld ⊢
        have HL := Lib.hid (Below.refl w141_.heap.size w141_)
        refine S.p 27 0 149 1 HT_.out rfl rfl ?_
        refine S.p 27 1 150 3 HT_.out rfl rfl ?_
        refine S.p 27 2 151 7 HT_.out rfl rfl ?_
        refine S.t 27 3 152 15 HT_.out HW_.out rfl rfl hHeld ?_
        refine S.t 27 5 154 47 HT_.out HW_.out rfl rfl hHeld ?_
        refine S.o 27 4 153 63 HT_.out rfl rfl (fun K hK => ?_)
        refine S.g Try.func15 #[.agg #[.int .i64 p1, .string p2, .slice AP p3.length cP, .int .i64 p4]] rfl rfl ?_; (with_reducible refine (of_c p1 p2 AP cP p3 p4 _ (KP.out.next HL.out).cs).mono ?_); rintro e w142_ ⟨Ap54, cp54, rfl, Hp540, hb⟩; refine ⟨_, rfl, ?_⟩
        replace HL := Lib.hid (below_step HL.out hb); clear hb
        have Hp54 := Lib.hid Hp540; clear Hp540
        refine hK.out _ _ ⟨(KP.out.next HL.out).c4, (KQ.out.next HL.out).c4, (KA.out.next HL.out).c4, (KB.out.next HL.out).c4⟩ (fun hHeld => ?_); clear hK K; refine S.w 153 ?_
        refine S.o 27 6 155 127 HT_.out rfl rfl (fun K hK => ?_)
        refine S.g Try.func21 #[.agg #[.int .i64 p1, .string p2, .slice Ap54 p3.length cp54, .int .i64 p4], .agg #[.int .i64 q1, .string q2, .slice AQ q3.length cQ, .int .i64 q4]] rfl rfl ?_; (with_reducible refine (rsame_c k p1 p2 Ap54 cp54 p3 p4 q1 q2 AQ cQ q3 q4 _ _ Hp54.out (KQ.out.next HL.out).cs HPs.out).mono ?_); rintro e w143_ ⟨rfl, hb⟩; refine ⟨_, rfl, ?_⟩
        replace Hp54 := Lib.hid (Hp54.out.next hb)
        replace HL := Lib.hid (below_step HL.out hb); clear hb
        clear Hp54
        refine hK.out _ _ ⟨(KP.out.next HL.out).c4, (KQ.out.next HL.out).c4, (KA.out.next HL.out).c4, (KB.out.next HL.out).c4⟩ (fun hHeld => ?_); clear hK K; refine S.w 155 ?_
        refine S.p 27 7 156 255 HT_.out rfl rfl ?_
        refine S.t 27 8 157 511 HT_.out HW_.out rfl rfl hHeld ?_
        refine S.o 27 9 158 1023 HT_.out rfl rfl (fun K hK => ?_)
        refine S.g Try.func11 #[.agg #[.int .i64 p1, .string p2, .slice AP p3.length cP, .int .i64 p4]] rfl rfl ?_; (with_reducible refine (right_c k p1 p2 AP cP p3 p4 _ _ (KP.out.next HL.out).cs HPr.out).mono ?_); rintro e w144_ ⟨rfl, hb⟩; refine ⟨_, rfl, ?_⟩
        replace HL := Lib.hid (below_step HL.out hb); clear hb
        refine hK.out _ _ ⟨(KP.out.next HL.out).c4, (KQ.out.next HL.out).c4, (KA.out.next HL.out).c4, (KB.out.next HL.out).c4⟩ (fun hHeld => ?_); clear hK K; refine S.w 158 ?_
        refine S.p 27 10 159 2047 HT_.out rfl rfl ?_
        refine S.p 27 11 160 4095 HT_.out rfl rfl ?_
        refine S.p 27 13 162 12287 HT_.out rfl rfl ?_
        refine S.p 27 16 165 77823 HT_.out rfl rfl ?_
        refine S.t 27 12 161 81919 HT_.out HW_.out rfl rfl hHeld ?_
        refine S.t 27 15 164 114687 HT_.out HW_.out rfl rfl hHeld ?_
        refine S.o 27 14 163 131071 HT_.out rfl rfl (fun K hK => ?_)
        refine S.g Try.func9 #[.agg #[.int .i64 p1, .string p2, .slice AP p3.length cP, .int .i64 p4], .string s] rfl rfl ?_; (with_reducible refine (allows_c k p1 p2 AP cP p3 p4 s _ _ (KP.out.next HL.out).cs HPa.out).mono ?_); rintro e w145_ ⟨rfl, hb⟩; refine ⟨_, rfl, ?_⟩
        replace HL := Lib.hid (below_step HL.out hb); clear hb
        refine hK.out _ _ ⟨(KP.out.next HL.out).c4, (KQ.out.next HL.out).c4, (KA.out.next HL.out).c4, (KB.out.next HL.out).c4⟩ (fun hHeld => ?_); clear hK K; refine S.w 163 ?_
        refine S.o 27 17 166 262143 HT_.out rfl rfl (fun K hK => ?_)
        refine S.g Try.func9 #[.agg #[.int .i64 h, .string n, .slice A l.length c, .int .i64 p], .string s] rfl rfl ?_; (with_reducible refine (allows_c k h n A c l p s _ _ (KA.out.next HL.out).cs HAa.out).mono ?_); rintro e w146_ ⟨rfl, hb⟩; refine ⟨_, rfl, ?_⟩
        replace HL := Lib.hid (below_step HL.out hb); clear hb
        refine hK.out _ _ ⟨(KP.out.next HL.out).c4, (KQ.out.next HL.out).c4, (KA.out.next HL.out).c4, (KB.out.next HL.out).c4⟩ (fun hHeld => ?_); clear hK K; refine S.w 166 ?_
        refine S.p 27 18 167 524287 HT_.out rfl rfl ?_
        refine S.u 27 19 168 1048575 HT_.out rfl rfl ?_
        refine S.u 27 20 169 2097151 HT_.out rfl rfl ?_
        refine S.u 27 21 170 4194303 HT_.out rfl rfl ?_
        refine S.p 27 22 171 8388607 HT_.out rfl rfl ?_
        refine S.p 27 23 172 16777215 HT_.out rfl rfl ?_
        refine S.p 27 24 173 33554431 HT_.out rfl rfl ?_
        refine S.p 27 25 174 67108863 HT_.out rfl rfl ?_
        refine S.p 27 26 6 134217727 HT_.out rfl rfl ?_
        refine done_ (done_of HT_.out (by kernel_rfl)) ?_; clear HT_ HW_ hHeld
        (try go_wp2)
        go_ret
        exact ⟨by first | rfl | (simp; done), below_step HB.out HL.out⟩
      | false =>
        replace HPa : RowKit.Hid (Pr.wild_Allows.f k p1 p2 p3 p4 s = some bb) := Lib.hid HPa.out
        (try go_wp2_with (fail))
        replace KA := Lib.hid (KA.out.next (below_drew1 (Below.refl w98_.heap.size w98_)))
        replace KB := Lib.hid (KB.out.next (below_drew1 (Below.refl w98_.heap.size w98_)))
        replace KX := Lib.hid (KX.out.next (below_drew1 (Below.refl w98_.heap.size w98_)))
        replace KY := Lib.hid (KY.out.next (below_drew1 (Below.refl w98_.heap.size w98_)))
        replace KP := Lib.hid (KP.out.next (below_drew1 (Below.refl w98_.heap.size w98_)))
        replace KQ := Lib.hid (KQ.out.next (below_drew1 (Below.refl w98_.heap.size w98_)))
        replace HB := Lib.hid (below_drew1 HB.out)
        refine start_ (n := 27) (S := fun w' => C4 w' gx (.int .i64 x1) (.string x2) (.slice AX x3.length cX) (.int .i64 x4) ∧ C4 w' gy (.int .i64 y1) (.string y2) (.slice AY y3.length cY) (.int .i64 y4) ∧ C4 w' w.heap.size (.int .i64 h) (.string n) (.slice A l.length c) (.int .i64 p) ∧ C4 w' (w.heap.size + 1) (.int .i64 h') (.string n') (.slice A' l'.length c') (.int .i64 p')) (ds := []) (S.um 27 0) (by kernel_rfl) rfl rfl ⟨KX.out.c4, KY.out.c4, KA.out.c4, KB.out.c4⟩ (fun hHeld => ?_); refine with_tabW wptab15 wpbits15 (fun HT_ HW_ => ?_)
        generalize w98_.drew = w147_ at HB KA KB KX KY KP KQ hHeld ⊢
        have HL := Lib.hid (Below.refl w147_.heap.size w147_)
        refine S.p 27 0 122 1 HT_.out rfl rfl ?_
        refine S.p 27 1 123 3 HT_.out rfl rfl ?_
        refine S.u 27 2 124 7 HT_.out rfl rfl ?_
        refine S.u 27 3 125 15 HT_.out rfl rfl ?_
        refine S.u 27 4 126 31 HT_.out rfl rfl ?_
        refine S.u 27 5 127 63 HT_.out rfl rfl ?_
        refine S.u 27 6 128 127 HT_.out rfl rfl ?_
        refine S.u 27 7 129 255 HT_.out rfl rfl ?_
        refine S.u 27 8 130 511 HT_.out rfl rfl ?_
        refine S.u 27 9 131 1023 HT_.out rfl rfl ?_
        refine S.u 27 10 132 2047 HT_.out rfl rfl ?_
        refine S.u 27 11 133 4095 HT_.out rfl rfl ?_
        refine S.u 27 12 134 8191 HT_.out rfl rfl ?_
        refine S.u 27 13 135 16383 HT_.out rfl rfl ?_
        refine S.u 27 14 136 32767 HT_.out rfl rfl ?_
        refine S.u 27 15 137 65535 HT_.out rfl rfl ?_
        refine S.u 27 16 138 131071 HT_.out rfl rfl ?_
        refine S.u 27 17 139 262143 HT_.out rfl rfl ?_
        refine S.u 27 18 140 524287 HT_.out rfl rfl ?_
        refine S.u 27 19 141 1048575 HT_.out rfl rfl ?_
        refine S.u 27 20 142 2097151 HT_.out rfl rfl ?_
        refine S.u 27 21 143 4194303 HT_.out rfl rfl ?_
        refine S.u 27 22 144 8388607 HT_.out rfl rfl ?_
        refine S.u 27 23 145 16777215 HT_.out rfl rfl ?_
        refine S.u 27 24 146 33554431 HT_.out rfl rfl ?_
        refine S.u 27 25 147 67108863 HT_.out rfl rfl ?_
        refine S.p 27 26 148 134217727 HT_.out rfl rfl ?_
        refine done_ (done_of HT_.out (by kernel_rfl)) ?_; clear HT_ HW_ hHeld
        replace KA := Lib.hid (KA.out.next HL.out)
        replace KB := Lib.hid (KB.out.next HL.out)
        replace KX := Lib.hid (KX.out.next HL.out)
        replace KY := Lib.hid (KY.out.next HL.out)
        replace KP := Lib.hid (KP.out.next HL.out)
        replace KQ := Lib.hid (KQ.out.next HL.out)
        replace HB := Lib.hid (below_step HB.out HL.out); clear HL
        (try go_wp2_with (fail))
        replace KA := Lib.hid (KA.out.next (below_drew1 (Below.refl w147_.heap.size w147_)))
        replace KB := Lib.hid (KB.out.next (below_drew1 (Below.refl w147_.heap.size w147_)))
        replace KX := Lib.hid (KX.out.next (below_drew1 (Below.refl w147_.heap.size w147_)))
        replace KY := Lib.hid (KY.out.next (below_drew1 (Below.refl w147_.heap.size w147_)))
        replace KP := Lib.hid (KP.out.next (below_drew1 (Below.refl w147_.heap.size w147_)))
        replace KQ := Lib.hid (KQ.out.next (below_drew1 (Below.refl w147_.heap.size w147_)))
        replace HB := Lib.hid (below_drew1 HB.out)
        refine start_ (n := 27) (S := fun w' => C4 w' gp (.int .i64 p1) (.string p2) (.slice AP p3.length cP) (.int .i64 p4) ∧ C4 w' gq (.int .i64 q1) (.string q2) (.slice AQ q3.length cQ) (.int .i64 q4) ∧ C4 w' w.heap.size (.int .i64 h) (.string n) (.slice A l.length c) (.int .i64 p) ∧ C4 w' (w.heap.size + 1) (.int .i64 h') (.string n') (.slice A' l'.length c') (.int .i64 p')) (ds := []) (S.um 27 0) (by kernel_rfl) rfl rfl ⟨KP.out.c4, KQ.out.c4, KA.out.c4, KB.out.c4⟩ (fun hHeld => ?_); refine with_tabW wptab17 wpbits17 (fun HT_ HW_ => ?_)
        generalize w147_.drew = w148_ at HB KA KB KX KY KP KQ hHeld ⊢
        have HL := Lib.hid (Below.refl w148_.heap.size w148_)
        refine S.p 27 0 149 1 HT_.out rfl rfl ?_
        refine S.p 27 1 150 3 HT_.out rfl rfl ?_
        refine S.p 27 2 151 7 HT_.out rfl rfl ?_
        refine S.t 27 3 152 15 HT_.out HW_.out rfl rfl hHeld ?_
        refine S.t 27 5 154 47 HT_.out HW_.out rfl rfl hHeld ?_
        refine S.o 27 4 153 63 HT_.out rfl rfl (fun K hK => ?_)
        refine S.g Try.func15 #[.agg #[.int .i64 p1, .string p2, .slice AP p3.length cP, .int .i64 p4]] rfl rfl ?_; (with_reducible refine (of_c p1 p2 AP cP p3 p4 _ (KP.out.next HL.out).cs).mono ?_); rintro e w149_ ⟨Ap54, cp54, rfl, Hp540, hb⟩; refine ⟨_, rfl, ?_⟩
        replace HL := Lib.hid (below_step HL.out hb); clear hb
        have Hp54 := Lib.hid Hp540; clear Hp540
        refine hK.out _ _ ⟨(KP.out.next HL.out).c4, (KQ.out.next HL.out).c4, (KA.out.next HL.out).c4, (KB.out.next HL.out).c4⟩ (fun hHeld => ?_); clear hK K; refine S.w 153 ?_
        refine S.o 27 6 155 127 HT_.out rfl rfl (fun K hK => ?_)
        refine S.g Try.func21 #[.agg #[.int .i64 p1, .string p2, .slice Ap54 p3.length cp54, .int .i64 p4], .agg #[.int .i64 q1, .string q2, .slice AQ q3.length cQ, .int .i64 q4]] rfl rfl ?_; (with_reducible refine (rsame_c k p1 p2 Ap54 cp54 p3 p4 q1 q2 AQ cQ q3 q4 _ _ Hp54.out (KQ.out.next HL.out).cs HPs.out).mono ?_); rintro e w150_ ⟨rfl, hb⟩; refine ⟨_, rfl, ?_⟩
        replace Hp54 := Lib.hid (Hp54.out.next hb)
        replace HL := Lib.hid (below_step HL.out hb); clear hb
        clear Hp54
        refine hK.out _ _ ⟨(KP.out.next HL.out).c4, (KQ.out.next HL.out).c4, (KA.out.next HL.out).c4, (KB.out.next HL.out).c4⟩ (fun hHeld => ?_); clear hK K; refine S.w 155 ?_
        refine S.p 27 7 156 255 HT_.out rfl rfl ?_
        refine S.t 27 8 157 511 HT_.out HW_.out rfl rfl hHeld ?_
        refine S.o 27 9 158 1023 HT_.out rfl rfl (fun K hK => ?_)
        refine S.g Try.func11 #[.agg #[.int .i64 p1, .string p2, .slice AP p3.length cP, .int .i64 p4]] rfl rfl ?_; (with_reducible refine (right_c k p1 p2 AP cP p3 p4 _ _ (KP.out.next HL.out).cs HPr.out).mono ?_); rintro e w151_ ⟨rfl, hb⟩; refine ⟨_, rfl, ?_⟩
        replace HL := Lib.hid (below_step HL.out hb); clear hb
        refine hK.out _ _ ⟨(KP.out.next HL.out).c4, (KQ.out.next HL.out).c4, (KA.out.next HL.out).c4, (KB.out.next HL.out).c4⟩ (fun hHeld => ?_); clear hK K; refine S.w 158 ?_
        refine S.p 27 10 159 2047 HT_.out rfl rfl ?_
        refine S.p 27 11 160 4095 HT_.out rfl rfl ?_
        refine S.p 27 13 162 12287 HT_.out rfl rfl ?_
        refine S.p 27 16 165 77823 HT_.out rfl rfl ?_
        refine S.t 27 12 161 81919 HT_.out HW_.out rfl rfl hHeld ?_
        refine S.t 27 15 164 114687 HT_.out HW_.out rfl rfl hHeld ?_
        refine S.o 27 14 163 131071 HT_.out rfl rfl (fun K hK => ?_)
        refine S.g Try.func9 #[.agg #[.int .i64 p1, .string p2, .slice AP p3.length cP, .int .i64 p4], .string s] rfl rfl ?_; (with_reducible refine (allows_c k p1 p2 AP cP p3 p4 s _ _ (KP.out.next HL.out).cs HPa.out).mono ?_); rintro e w152_ ⟨rfl, hb⟩; refine ⟨_, rfl, ?_⟩
        replace HL := Lib.hid (below_step HL.out hb); clear hb
        refine hK.out _ _ ⟨(KP.out.next HL.out).c4, (KQ.out.next HL.out).c4, (KA.out.next HL.out).c4, (KB.out.next HL.out).c4⟩ (fun hHeld => ?_); clear hK K; refine S.w 163 ?_
        refine S.o 27 17 166 262143 HT_.out rfl rfl (fun K hK => ?_)
        refine S.g Try.func9 #[.agg #[.int .i64 h, .string n, .slice A l.length c, .int .i64 p], .string s] rfl rfl ?_; (with_reducible refine (allows_c k h n A c l p s _ _ (KA.out.next HL.out).cs HAa.out).mono ?_); rintro e w153_ ⟨rfl, hb⟩; refine ⟨_, rfl, ?_⟩
        replace HL := Lib.hid (below_step HL.out hb); clear hb
        refine hK.out _ _ ⟨(KP.out.next HL.out).c4, (KQ.out.next HL.out).c4, (KA.out.next HL.out).c4, (KB.out.next HL.out).c4⟩ (fun hHeld => ?_); clear hK K; refine S.w 166 ?_
        refine S.p 27 18 167 524287 HT_.out rfl rfl ?_
        refine S.p 27 20 169 1572863 HT_.out rfl rfl ?_
        refine S.t 27 19 168 2097151 HT_.out HW_.out rfl rfl hHeld ?_
        refine S.o 27 21 170 4194303 HT_.out rfl rfl (fun K hK => ?_)
        refine S.g Try.func9 #[.agg #[.int .i64 h', .string n', .slice A' l'.length c', .int .i64 p'], .string s] rfl rfl ?_; (with_reducible refine (allows_c k h' n' A' c' l' p' s _ _ (KB.out.next HL.out).cs HAb.out).mono ?_); rintro e w154_ ⟨rfl, hb⟩; refine ⟨_, rfl, ?_⟩
        replace HL := Lib.hid (below_step HL.out hb); clear hb
        refine hK.out _ _ ⟨(KP.out.next HL.out).c4, (KQ.out.next HL.out).c4, (KA.out.next HL.out).c4, (KB.out.next HL.out).c4⟩ (fun hHeld => ?_); clear hK K; refine S.w 170 ?_
        refine S.p 27 22 171 8388607 HT_.out rfl rfl ?_
        refine S.p 27 23 172 16777215 HT_.out rfl rfl ?_
        refine S.p 27 24 173 33554431 HT_.out rfl rfl ?_
        refine S.p 27 25 174 67108863 HT_.out rfl rfl ?_
        refine S.p 27 26 6 134217727 HT_.out rfl rfl ?_
        refine done_ (done_of HT_.out (by kernel_rfl)) ?_; clear HT_ HW_ hHeld
        (try go_wp2)
        go_ret
        exact ⟨by first | rfl | (simp; done), below_step HB.out HL.out⟩
    | false =>
      clear HPs
      clear HPr
      clear HPa
      cases aa with
      | true =>
        (try go_wp2_with (fail))
        replace KA := Lib.hid (KA.out.next (below_drew1 (Below.refl w98_.heap.size w98_)))
        replace KB := Lib.hid (KB.out.next (below_drew1 (Below.refl w98_.heap.size w98_)))
        replace KX := Lib.hid (KX.out.next (below_drew1 (Below.refl w98_.heap.size w98_)))
        replace KY := Lib.hid (KY.out.next (below_drew1 (Below.refl w98_.heap.size w98_)))
        replace KP := Lib.hid (KP.out.next (below_drew1 (Below.refl w98_.heap.size w98_)))
        replace KQ := Lib.hid (KQ.out.next (below_drew1 (Below.refl w98_.heap.size w98_)))
        replace HB := Lib.hid (below_drew1 HB.out)
        refine start_ (n := 27) (S := fun w' => C4 w' gx (.int .i64 x1) (.string x2) (.slice AX x3.length cX) (.int .i64 x4) ∧ C4 w' gy (.int .i64 y1) (.string y2) (.slice AY y3.length cY) (.int .i64 y4) ∧ C4 w' w.heap.size (.int .i64 h) (.string n) (.slice A l.length c) (.int .i64 p) ∧ C4 w' (w.heap.size + 1) (.int .i64 h') (.string n') (.slice A' l'.length c') (.int .i64 p')) (ds := []) (S.um 27 0) (by kernel_rfl) rfl rfl ⟨KX.out.c4, KY.out.c4, KA.out.c4, KB.out.c4⟩ (fun hHeld => ?_); refine with_tabW wptab15 wpbits15 (fun HT_ HW_ => ?_)
        generalize w98_.drew = w155_ at HB KA KB KX KY KP KQ hHeld ⊢
        have HL := Lib.hid (Below.refl w155_.heap.size w155_)
        refine S.p 27 0 122 1 HT_.out rfl rfl ?_
        refine S.p 27 1 123 3 HT_.out rfl rfl ?_
        refine S.u 27 2 124 7 HT_.out rfl rfl ?_
        refine S.u 27 3 125 15 HT_.out rfl rfl ?_
        refine S.u 27 4 126 31 HT_.out rfl rfl ?_
        refine S.u 27 5 127 63 HT_.out rfl rfl ?_
        refine S.u 27 6 128 127 HT_.out rfl rfl ?_
        refine S.u 27 7 129 255 HT_.out rfl rfl ?_
        refine S.u 27 8 130 511 HT_.out rfl rfl ?_
        refine S.u 27 9 131 1023 HT_.out rfl rfl ?_
        refine S.u 27 10 132 2047 HT_.out rfl rfl ?_
        refine S.u 27 11 133 4095 HT_.out rfl rfl ?_
        refine S.u 27 12 134 8191 HT_.out rfl rfl ?_
        refine S.u 27 13 135 16383 HT_.out rfl rfl ?_
        refine S.u 27 14 136 32767 HT_.out rfl rfl ?_
        refine S.u 27 15 137 65535 HT_.out rfl rfl ?_
        refine S.u 27 16 138 131071 HT_.out rfl rfl ?_
        refine S.u 27 17 139 262143 HT_.out rfl rfl ?_
        refine S.u 27 18 140 524287 HT_.out rfl rfl ?_
        refine S.u 27 19 141 1048575 HT_.out rfl rfl ?_
        refine S.u 27 20 142 2097151 HT_.out rfl rfl ?_
        refine S.u 27 21 143 4194303 HT_.out rfl rfl ?_
        refine S.u 27 22 144 8388607 HT_.out rfl rfl ?_
        refine S.u 27 23 145 16777215 HT_.out rfl rfl ?_
        refine S.u 27 24 146 33554431 HT_.out rfl rfl ?_
        refine S.u 27 25 147 67108863 HT_.out rfl rfl ?_
        refine S.p 27 26 148 134217727 HT_.out rfl rfl ?_
        refine done_ (done_of HT_.out (by kernel_rfl)) ?_; clear HT_ HW_ hHeld
        replace KA := Lib.hid (KA.out.next HL.out)
        replace KB := Lib.hid (KB.out.next HL.out)
        replace KX := Lib.hid (KX.out.next HL.out)
        replace KY := Lib.hid (KY.out.next HL.out)
        replace KP := Lib.hid (KP.out.next HL.out)
        replace KQ := Lib.hid (KQ.out.next HL.out)
        replace HB := Lib.hid (below_step HB.out HL.out); clear HL
        (try go_wp2_with (fail))
        replace KA := Lib.hid (KA.out.next (below_drew1 (Below.refl w155_.heap.size w155_)))
        replace KB := Lib.hid (KB.out.next (below_drew1 (Below.refl w155_.heap.size w155_)))
        replace KX := Lib.hid (KX.out.next (below_drew1 (Below.refl w155_.heap.size w155_)))
        replace KY := Lib.hid (KY.out.next (below_drew1 (Below.refl w155_.heap.size w155_)))
        replace KP := Lib.hid (KP.out.next (below_drew1 (Below.refl w155_.heap.size w155_)))
        replace KQ := Lib.hid (KQ.out.next (below_drew1 (Below.refl w155_.heap.size w155_)))
        replace HB := Lib.hid (below_drew1 HB.out)
        refine start_ (n := 27) (S := fun w' => C4 w' gp (.int .i64 p1) (.string p2) (.slice AP p3.length cP) (.int .i64 p4) ∧ C4 w' gq (.int .i64 q1) (.string q2) (.slice AQ q3.length cQ) (.int .i64 q4) ∧ C4 w' w.heap.size (.int .i64 h) (.string n) (.slice A l.length c) (.int .i64 p) ∧ C4 w' (w.heap.size + 1) (.int .i64 h') (.string n') (.slice A' l'.length c') (.int .i64 p')) (ds := []) (S.um 27 0) (by kernel_rfl) rfl rfl ⟨KP.out.c4, KQ.out.c4, KA.out.c4, KB.out.c4⟩ (fun hHeld => ?_); refine with_tabW wptab17 wpbits17 (fun HT_ HW_ => ?_)
        generalize w155_.drew = w156_ at HB KA KB KX KY KP KQ hHeld ⊢
        have HL := Lib.hid (Below.refl w156_.heap.size w156_)
        refine S.p 27 0 149 1 HT_.out rfl rfl ?_
        refine S.p 27 1 150 3 HT_.out rfl rfl ?_
        refine S.p 27 2 151 7 HT_.out rfl rfl ?_
        refine S.u 27 3 152 15 HT_.out rfl rfl ?_
        refine S.u 27 4 153 31 HT_.out rfl rfl ?_
        refine S.u 27 5 154 63 HT_.out rfl rfl ?_
        refine S.u 27 6 155 127 HT_.out rfl rfl ?_
        refine S.u 27 7 156 255 HT_.out rfl rfl ?_
        refine S.u 27 8 157 511 HT_.out rfl rfl ?_
        refine S.u 27 9 158 1023 HT_.out rfl rfl ?_
        refine S.u 27 10 159 2047 HT_.out rfl rfl ?_
        refine S.u 27 11 160 4095 HT_.out rfl rfl ?_
        refine S.u 27 12 161 8191 HT_.out rfl rfl ?_
        refine S.u 27 13 162 16383 HT_.out rfl rfl ?_
        refine S.u 27 14 163 32767 HT_.out rfl rfl ?_
        refine S.u 27 15 164 65535 HT_.out rfl rfl ?_
        refine S.u 27 16 165 131071 HT_.out rfl rfl ?_
        refine S.u 27 17 166 262143 HT_.out rfl rfl ?_
        refine S.u 27 18 167 524287 HT_.out rfl rfl ?_
        refine S.u 27 19 168 1048575 HT_.out rfl rfl ?_
        refine S.u 27 20 169 2097151 HT_.out rfl rfl ?_
        refine S.u 27 21 170 4194303 HT_.out rfl rfl ?_
        refine S.u 27 22 171 8388607 HT_.out rfl rfl ?_
        refine S.u 27 23 172 16777215 HT_.out rfl rfl ?_
        refine S.u 27 24 173 33554431 HT_.out rfl rfl ?_
        refine S.p 27 25 174 67108863 HT_.out rfl rfl ?_
        refine S.p 27 26 6 134217727 HT_.out rfl rfl ?_
        refine done_ (done_of HT_.out (by kernel_rfl)) ?_; clear HT_ HW_ hHeld
        (try go_wp2)
        go_ret
        exact ⟨by first | rfl | (simp; done), below_step HB.out HL.out⟩
      | false =>
        (try go_wp2_with (fail))
        replace KA := Lib.hid (KA.out.next (below_drew1 (Below.refl w98_.heap.size w98_)))
        replace KB := Lib.hid (KB.out.next (below_drew1 (Below.refl w98_.heap.size w98_)))
        replace KX := Lib.hid (KX.out.next (below_drew1 (Below.refl w98_.heap.size w98_)))
        replace KY := Lib.hid (KY.out.next (below_drew1 (Below.refl w98_.heap.size w98_)))
        replace KP := Lib.hid (KP.out.next (below_drew1 (Below.refl w98_.heap.size w98_)))
        replace KQ := Lib.hid (KQ.out.next (below_drew1 (Below.refl w98_.heap.size w98_)))
        replace HB := Lib.hid (below_drew1 HB.out)
        refine start_ (n := 27) (S := fun w' => C4 w' gx (.int .i64 x1) (.string x2) (.slice AX x3.length cX) (.int .i64 x4) ∧ C4 w' gy (.int .i64 y1) (.string y2) (.slice AY y3.length cY) (.int .i64 y4) ∧ C4 w' w.heap.size (.int .i64 h) (.string n) (.slice A l.length c) (.int .i64 p) ∧ C4 w' (w.heap.size + 1) (.int .i64 h') (.string n') (.slice A' l'.length c') (.int .i64 p')) (ds := []) (S.um 27 0) (by kernel_rfl) rfl rfl ⟨KX.out.c4, KY.out.c4, KA.out.c4, KB.out.c4⟩ (fun hHeld => ?_); refine with_tabW wptab15 wpbits15 (fun HT_ HW_ => ?_)
        generalize w98_.drew = w157_ at HB KA KB KX KY KP KQ hHeld ⊢
        have HL := Lib.hid (Below.refl w157_.heap.size w157_)
        refine S.p 27 0 122 1 HT_.out rfl rfl ?_
        refine S.p 27 1 123 3 HT_.out rfl rfl ?_
        refine S.u 27 2 124 7 HT_.out rfl rfl ?_
        refine S.u 27 3 125 15 HT_.out rfl rfl ?_
        refine S.u 27 4 126 31 HT_.out rfl rfl ?_
        refine S.u 27 5 127 63 HT_.out rfl rfl ?_
        refine S.u 27 6 128 127 HT_.out rfl rfl ?_
        refine S.u 27 7 129 255 HT_.out rfl rfl ?_
        refine S.u 27 8 130 511 HT_.out rfl rfl ?_
        refine S.u 27 9 131 1023 HT_.out rfl rfl ?_
        refine S.u 27 10 132 2047 HT_.out rfl rfl ?_
        refine S.u 27 11 133 4095 HT_.out rfl rfl ?_
        refine S.u 27 12 134 8191 HT_.out rfl rfl ?_
        refine S.u 27 13 135 16383 HT_.out rfl rfl ?_
        refine S.u 27 14 136 32767 HT_.out rfl rfl ?_
        refine S.u 27 15 137 65535 HT_.out rfl rfl ?_
        refine S.u 27 16 138 131071 HT_.out rfl rfl ?_
        refine S.u 27 17 139 262143 HT_.out rfl rfl ?_
        refine S.u 27 18 140 524287 HT_.out rfl rfl ?_
        refine S.u 27 19 141 1048575 HT_.out rfl rfl ?_
        refine S.u 27 20 142 2097151 HT_.out rfl rfl ?_
        refine S.u 27 21 143 4194303 HT_.out rfl rfl ?_
        refine S.u 27 22 144 8388607 HT_.out rfl rfl ?_
        refine S.u 27 23 145 16777215 HT_.out rfl rfl ?_
        refine S.u 27 24 146 33554431 HT_.out rfl rfl ?_
        refine S.u 27 25 147 67108863 HT_.out rfl rfl ?_
        refine S.p 27 26 148 134217727 HT_.out rfl rfl ?_
        refine done_ (done_of HT_.out (by kernel_rfl)) ?_; clear HT_ HW_ hHeld
        replace KA := Lib.hid (KA.out.next HL.out)
        replace KB := Lib.hid (KB.out.next HL.out)
        replace KX := Lib.hid (KX.out.next HL.out)
        replace KY := Lib.hid (KY.out.next HL.out)
        replace KP := Lib.hid (KP.out.next HL.out)
        replace KQ := Lib.hid (KQ.out.next HL.out)
        replace HB := Lib.hid (below_step HB.out HL.out); clear HL
        (try go_wp2_with (fail))
        replace KA := Lib.hid (KA.out.next (below_drew1 (Below.refl w157_.heap.size w157_)))
        replace KB := Lib.hid (KB.out.next (below_drew1 (Below.refl w157_.heap.size w157_)))
        replace KX := Lib.hid (KX.out.next (below_drew1 (Below.refl w157_.heap.size w157_)))
        replace KY := Lib.hid (KY.out.next (below_drew1 (Below.refl w157_.heap.size w157_)))
        replace KP := Lib.hid (KP.out.next (below_drew1 (Below.refl w157_.heap.size w157_)))
        replace KQ := Lib.hid (KQ.out.next (below_drew1 (Below.refl w157_.heap.size w157_)))
        replace HB := Lib.hid (below_drew1 HB.out)
        refine start_ (n := 27) (S := fun w' => C4 w' gp (.int .i64 p1) (.string p2) (.slice AP p3.length cP) (.int .i64 p4) ∧ C4 w' gq (.int .i64 q1) (.string q2) (.slice AQ q3.length cQ) (.int .i64 q4) ∧ C4 w' w.heap.size (.int .i64 h) (.string n) (.slice A l.length c) (.int .i64 p) ∧ C4 w' (w.heap.size + 1) (.int .i64 h') (.string n') (.slice A' l'.length c') (.int .i64 p')) (ds := []) (S.um 27 0) (by kernel_rfl) rfl rfl ⟨KP.out.c4, KQ.out.c4, KA.out.c4, KB.out.c4⟩ (fun hHeld => ?_); refine with_tabW wptab17 wpbits17 (fun HT_ HW_ => ?_)
        generalize w157_.drew = w158_ at HB KA KB KX KY KP KQ hHeld ⊢
        have HL := Lib.hid (Below.refl w158_.heap.size w158_)
        refine S.p 27 0 149 1 HT_.out rfl rfl ?_
        refine S.p 27 1 150 3 HT_.out rfl rfl ?_
        refine S.p 27 2 151 7 HT_.out rfl rfl ?_
        refine S.u 27 3 152 15 HT_.out rfl rfl ?_
        refine S.u 27 4 153 31 HT_.out rfl rfl ?_
        refine S.u 27 5 154 63 HT_.out rfl rfl ?_
        refine S.u 27 6 155 127 HT_.out rfl rfl ?_
        refine S.u 27 7 156 255 HT_.out rfl rfl ?_
        refine S.u 27 8 157 511 HT_.out rfl rfl ?_
        refine S.u 27 9 158 1023 HT_.out rfl rfl ?_
        refine S.u 27 10 159 2047 HT_.out rfl rfl ?_
        refine S.u 27 11 160 4095 HT_.out rfl rfl ?_
        refine S.u 27 12 161 8191 HT_.out rfl rfl ?_
        refine S.u 27 13 162 16383 HT_.out rfl rfl ?_
        refine S.u 27 14 163 32767 HT_.out rfl rfl ?_
        refine S.u 27 15 164 65535 HT_.out rfl rfl ?_
        refine S.u 27 16 165 131071 HT_.out rfl rfl ?_
        refine S.u 27 17 166 262143 HT_.out rfl rfl ?_
        refine S.u 27 18 167 524287 HT_.out rfl rfl ?_
        refine S.u 27 19 168 1048575 HT_.out rfl rfl ?_
        refine S.u 27 20 169 2097151 HT_.out rfl rfl ?_
        refine S.u 27 21 170 4194303 HT_.out rfl rfl ?_
        refine S.u 27 22 171 8388607 HT_.out rfl rfl ?_
        refine S.u 27 23 172 16777215 HT_.out rfl rfl ?_
        refine S.u 27 24 173 33554431 HT_.out rfl rfl ?_
        refine S.p 27 25 174 67108863 HT_.out rfl rfl ?_
        refine S.p 27 26 6 134217727 HT_.out rfl rfl ?_
        refine done_ (done_of HT_.out (by kernel_rfl)) ?_; clear HT_ HW_ hHeld
        (try go_wp2)
        go_ret
        exact ⟨by first | rfl | (simp; done), below_step HB.out HL.out⟩

end Go.Proofs.Ytfpedicgeepikaa.G
