import Derived.Test.YthocjdlcopmhiaaDoorProg
import Derived.Below
import Derived.Deep.Draws
import Derived.Deep.AppendLies
import Derived.Maps.AppendAt
import Derived.OwnWalk
import Derived.Laws.BytesArg
import Derived.Laws.MakeOwn
import Derived.Laws.OwnMore
import Derived.Deep.OwnRows
import Derived.Tactics
import Derived.Lib.ConvBytes
import Derived.Laws.Slices
import Derived.WalkKit
import Derived.KernelRfl
import Derived.RowKit3
import Derived.Deep.LoopGhost
import Derived.Deep.QuietTactic
import Derived.BigQuiet
import Derived.WideLaws
import Derived.Deep.DeepCutAuto
import Derived.Deep.CutBlock
import Derived.Deep.RegionHeld3
import Derived.Laws.Rows
import Derived.Lib.AppendStr
import Derived.ArgAppend
import Derived.Laws.IdiomCopy
import Derived.OrdersHeld
import Derived.Laws.BitsLemmas
import Derived.RowKit
import Derived.Test.YthocjdlcopmhiaaDoorWWords
import Derived.Test.YthocjdlcopmhiaaDoorWLast
import Derived.Test.YthocjdlcopmhiaaDoorWTab
import Derived.Test.YthocjdlcopmhiaaDoorWQPut
import Derived.Test.YthocjdlcopmhiaaDoorWApart
import Derived.Test.YthocjdlcopmhiaaDoorWArr
import Derived.Test.YthocjdlcopmhiaaDoorWZeros
import Derived.Test.YthocjdlcopmhiaaDoorWFoot
import Derived.Test.YthocjdlcopmhiaaDoorWKept
import Derived.Test.YthocjdlcopmhiaaDoorWShare
import Derived.Test.YthocjdlcopmhiaaDoorWN
import Derived.Test.YthocjdlcopmhiaaDoorWRepsOne
import Derived.Test.YthocjdlcopmhiaaDoorWGuard
import Derived.Test.YthocjdlcopmhiaaDoorWNEv
import Derived.Test.YthocjdlcopmhiaaDoorWMore
import Derived.Test.YthocjdlcopmhiaaDoorWEqStruct
import Derived.Test.YthocjdlcopmhiaaDoorWFour
import Derived.Test.YthocjdlcopmhiaaDoorWFootNe
import Derived.Test.YthocjdlcopmhiaaDoorWAt
import Derived.Test.YthocjdlcopmhiaaDoorWInv
import Derived.Test.YthocjdlcopmhiaaDoorWInvWords
import Derived.Test.YthocjdlcopmhiaaDoorM10
import Derived.Test.YthocjdlcopmhiaaDoorM8
import Derived.Test.YthocjdlcopmhiaaDoorM9
import Derived.Test.YthocjdlcopmhiaaDoorM12
namespace Go.Proofs.YthocjdlcopmhiaaDoor.G
open Go.RowKit Go.Proofs.YthocjdlcopmhiaaDoorW.PrintWords Go.Proofs.YthocjdlcopmhiaaDoorW.PrintLast Go.Proofs.YthocjdlcopmhiaaDoorW.PrintMore
attribute [local go_sem] max2_int min2_int max_two min_two max_three min_three max_four min_four
set_option linter.unusedVariables false
set_option linter.unusedSimpArgs false
def RB10.T : Bool × List (List Nat × List Nat) := (true, [([], []), ([0], [0]), ([1], [1]), ([2], [2]), ([], []), ([4], [4]), ([], []), ([6], [6]), ([7], [7]), ([], []), ([9], [9]), ([10, 8], [10]), ([], []), ([12, 12], [12]), ([3, 5, 8, 11, 13], [3, 5, 8, 11, 13]), ([], []), ([15, 14, 11, 0, 1, 2, 3, 4, 5, 6, 7, 8, 9, 10, 11, 12, 13, 14, 15], [14, 15])])
def RB10.B : List Nat := [0, 1, 3, 7, 0, 16, 0, 64, 192, 0, 512, 1984, 0, 4096, 16383, 0, 65535]
theorem RB10.tab : rtab .any (opsOf Tryd.f9 10) = RB10.T := by kernel_rfl
theorem RB10.bits : waitsOk RB10.T.2 RB10.B = true := by kernel_rfl
def RB14.T : Bool × List (List Nat × List Nat) := (true, [([], []), ([0], [0]), ([], []), ([], []), ([3], [3]), ([1, 2, 0, 1, 2, 3, 4], [1, 2]), ([5, 4, 4, 0, 1, 2, 3, 4], [4, 5])])
def RB14.B : List Nat := [0, 1, 0, 0, 8, 31, 63]
theorem RB14.tab : rtab .any (opsOf Tryd.f9 14) = RB14.T := by kernel_rfl
theorem RB14.bits : waitsOk RB14.T.2 RB14.B = true := by kernel_rfl
abbrev BuildPost (w : World) (r0 : List Int) (r1 : Bool) (r2 r3 : List Int) (r4 : List (List Int)) (r5 : Int) (e : Ending) (w' : World) : Prop :=
 ∃ v0 v2 v3 v4 : Value, e = .returned (.tuple #[.agg #[v0, .bool r1, v2, v3, v4], .int .i64 r5]) ∧ Kd.V (Kd.int .i64) 3 w' w.heap.size (fun k => w.heap.size ≤ k) v0 r0 ∧ Kd.V (Kd.int .i64) 3 w' w.heap.size (fun k => w.heap.size ≤ k) v2 r2 ∧ Kd.V (Kd.int .i64) 3 w' w.heap.size (fun k => w.heap.size ≤ k) v3 r3 ∧ Kd.V (Kd.slice 3 (Kd.int .i64)) 25 w' w.heap.size (fun k => w.heap.size ≤ k) v4 r4 ∧ Below w.heap.size w w'
theorem V_nil {α : Type} {d : Kd α} {e b : Nat} {ok : Nat → Prop} {w : World} : Kd.V d e w b ok (.slice none 0 0) [] := Kd.N_V (base' := b) (Kd.N_nil d e w 0 ok)
set_option maxHeartbeats 4000000 in
set_option maxRecDepth 100000 in
theorem glush_Build.calls (k : Nat) (a0_0 : Int) (a0_1 : Int) (a0_2 : Int) (a0_3 : Int) (A0_4 : Option Addr) (c0_4 : Nat) (l0_4 : List Pr.S24) (a1 : Int) (r0 : List Int) (r1 : Bool) (r2 r3 : List Int) (r4 : List (List Int)) (r5 : Int) (w : World) (hr0_4 : Kd.C Pr.k24 w A0_4 l0_4.length l0_4) (hc0_4 : l0_4.length ≤ c0_4) (htab : HTab w) (h : glush_Build.f k a0_0 a0_1 a0_2 a0_3 l0_4 a1 = some (r0, r1, r2, r3, r4, r5)) :
  Calls Tryd.prog 9 #[.agg #[.int .i64 a0_0, .int .i64 a0_1, .int .i64 a0_2, .int .i64 a0_3, .slice A0_4 l0_4.length c0_4], .int .i64 a1] w (BuildPost w r0 r1 r2 r3 r4 r5) := by
 have hu54 := Tryd.underlying54; have hu24 := Tryd.underlying24; have hu33 := Tryd.underlying33; have hu50 := Tryd.underlying50
 unfold glush_Build.f at h
 obtain ⟨er, her, h⟩ := Option.bind_eq_some_iff.1 h
 have HER := Lib.hid her; have HH := Lib.hid h; have HC := Lib.hid hr0_4; have Hc := Lib.hid hc0_4; have HT := Lib.hid htab
 clear her h hr0_4 hc0_4 htab
 go_enter Tryd.func9, Tryd.ntmps9
 go_upto_region 1 with (fail)
 have hby := below_alloc (below_alloc (Below.refl w.heap.size w) (.cells #[.int .i64 a0_0, .int .i64 a0_1, .int .i64 a0_2, .int .i64 a0_3, .slice A0_4 l0_4.length c0_4] 24)) (.cells #[.slice none 0 0, .bool false, .slice none 0 0, .slice none 0 0, .slice none 0 0] 33)
 have KE : ((w.alloc (.cells #[.int .i64 a0_0, .int .i64 a0_1, .int .i64 a0_2, .int .i64 a0_3, .slice A0_4 l0_4.length c0_4] 24)).alloc (.cells #[.slice none 0 0, .bool false, .slice none 0 0, .slice none 0 0, .slice none 0 0] 33)).heap[w.heap.size]? = some (.cells #[.int .i64 a0_0, .int .i64 a0_1, .int .i64 a0_2, .int .i64 a0_3, .slice A0_4 l0_4.length c0_4] 24 (0, 0)) := blk_alloc (blk_new w _) _
 have KZ : ((w.alloc (.cells #[.int .i64 a0_0, .int .i64 a0_1, .int .i64 a0_2, .int .i64 a0_3, .slice A0_4 l0_4.length c0_4] 24)).alloc (.cells #[.slice none 0 0, .bool false, .slice none 0 0, .slice none 0 0, .slice none 0 0] 33)).heap[w.heap.size + 1]? = some (.cells #[.slice none 0 0, .bool false, .slice none 0 0, .slice none 0 0, .slice none 0 0] 33 (0, 0)) := by
  have := blk_new (w.alloc (.cells #[.int .i64 a0_0, .int .i64 a0_1, .int .i64 a0_2, .int .i64 a0_3, .slice A0_4 l0_4.length c0_4] 24)) (.cells #[.slice none 0 0, .bool false, .slice none 0 0, .slice none 0 0, .slice none 0 0] 33); simpa using this
 generalize (w.alloc (.cells #[.int .i64 a0_0, .int .i64 a0_1, .int .i64 a0_2, .int .i64 a0_3, .slice A0_4 l0_4.length c0_4] 24)).alloc (.cells #[.slice none 0 0, .bool false, .slice none 0 0, .slice none 0 0, .slice none 0 0] 33) = wA at hby KE KZ ⊢
 have HBA := Lib.hid hby; have KEA := Lib.hid KE; have KZA := Lib.hid KZ
 clear hby KE KZ
 have e0 : wA.cell? ⟨w.heap.size, 0, none⟩ = some (.int .i64 a0_0) := (blk_cell KEA.out 0).trans rfl
 have e1 : wA.cell? ⟨w.heap.size, 1, none⟩ = some (.int .i64 a0_1) := (blk_cell KEA.out 1).trans rfl
 have e2 : wA.cell? ⟨w.heap.size, 2, none⟩ = some (.int .i64 a0_2) := (blk_cell KEA.out 2).trans rfl
 have e3 : wA.cell? ⟨w.heap.size, 3, none⟩ = some (.int .i64 a0_3) := (blk_cell KEA.out 3).trans rfl
 have e4 : wA.cell? ⟨w.heap.size, 4, none⟩ = some (.slice A0_4 l0_4.length c0_4) := (blk_cell KEA.out 4).trans rfl
 go_wp2_with (fail)
 clear e0 e1 e2 e3 e4
 refine (glush_Check.calls k a0_0 a0_1 a0_2 a0_3 A0_4 c0_4 l0_4 er wA (Kd.C_below HC.out HBA.out) Hc.out HER.out).mono ?_
 rintro e w1 ⟨rfl, hb1⟩
 have HB1 := Lib.hid (below_step HBA.out hb1); have KE1 := Lib.hid (blk_below KEA.out hb1); have KZ1 := Lib.hid (blk_below KZA.out hb1)
 clear hb1 HBA KEA KZA HER
 by_cases her0 : er = 0
 case neg =>
  have h := HH.out
  rw [if_neg her0] at h
  obtain ⟨rfl, rfl, rfl, rfl, rfl, rfl⟩ := tup6 (Option.some.inj h)
  have b0 : (!(er == 0)) = true := by simpa using her0
  obtain ⟨z0, z1, z2, z3, z4, f0, f1, f2, f3, f4⟩ := cells5 KZ1.out
  go_wp2_with (fail)
  refine bodyPost_ret (results_ct rfl _ _ (w.heap.size + 1) 33 #[.slice none 0 0, .bool false, .slice none 0 0, .slice none 0 0, .slice none 0 0] (0, 0) _ rfl (st5_blk KZ1.out _ _ _ _ _) Tryd.underlying33 rfl (by kernel_rfl)) rfl ?_
  exact ⟨_, _, _, _, rfl, V_nil, V_nil, V_nil, V_nil, st5_below HB1.out (Nat.le_add_right _ 1) _ _ _ _ _⟩
 have h := HH.out
 rw [if_pos her0] at h
 obtain ⟨m, hm⟩ : ∃ m : Int, (if (512 : Int) < a1 then (512 : Int) else a1) = m := ⟨_, rfl⟩
 have hmm : min a1 512 = m := by rw [← hm]; split <;> omega
 have hm5 : m ≤ 512 := by rw [← hmm]; omega
 rw [hmm] at h
 obtain ⟨n, hn, h⟩ := Option.bind_eq_some_iff.1 h
 subst her0
 have HM5 := Lib.hid hm5
 clear hmm hm5
 have HN := Lib.hid hn; have HH2 := Lib.hid h
 clear hn HH h
 obtain ⟨e0, e1, e2, e3, e4, _⟩ := cells5 KE1.out
 go_wp2_with (fail)
 clear e0 e1 e2 e3 e4 hm
 refine (Pr.glush_Positions.calls k a0_0 a0_1 a0_2 a0_3 A0_4 c0_4 l0_4 m n w1 (Kd.C_below HC.out HB1.out) Hc.out HN.out).mono ?_
 rintro e w2 ⟨rfl, hb2⟩
 have HB2 := Lib.hid (below_step HB1.out hb2); have KE2 := Lib.hid (blk_below KE1.out hb2); have KZ2 := Lib.hid (blk_below KZ1.out hb2)
 clear hb2 HB1 KE1 KZ1 HN
 have h := HH2.out
 clear HH2
 by_cases h1 : m < 0
 ·rw [if_pos (.inl h1)] at h
  obtain ⟨rfl, rfl, rfl, rfl, rfl, rfl⟩ := tup6 (Option.some.inj h)
  have b1 : decide (m < 0) = true := decide_eq_true h1
  clear h1
  obtain ⟨z0, z1, z2, z3, z4, f0, f1, f2, f3, f4⟩ := cells5 KZ2.out
  go_wp2_with (fail)
  refine bodyPost_ret (results_ct rfl _ _ (w.heap.size + 1) 33 #[.slice none 0 0, .bool false, .slice none 0 0, .slice none 0 0, .slice none 0 0] (0, 0) _ rfl (st5_blk KZ2.out _ _ _ _ _) Tryd.underlying33 rfl (by kernel_rfl)) rfl ?_
  exact ⟨_, _, _, _, rfl, V_nil, V_nil, V_nil, V_nil, st5_below HB2.out (Nat.le_add_right _ 1) _ _ _ _ _⟩
 have b1 : decide (m < 0) = false := decide_eq_false h1
 by_cases h2 : m < n
 ·rw [if_pos (.inr h2)] at h
  obtain ⟨rfl, rfl, rfl, rfl, rfl, rfl⟩ := tup6 (Option.some.inj h)
  have b2 : decide (m < n) = true := decide_eq_true h2
  clear h1 h2
  obtain ⟨z0, z1, z2, z3, z4, f0, f1, f2, f3, f4⟩ := cells5 KZ2.out
  go_wp2_with (fail)
  refine bodyPost_ret (results_ct rfl _ _ (w.heap.size + 1) 33 #[.slice none 0 0, .bool false, .slice none 0 0, .slice none 0 0, .slice none 0 0] (0, 0) _ rfl (st5_blk KZ2.out _ _ _ _ _) Tryd.underlying33 rfl (by kernel_rfl)) rfl ?_
  exact ⟨_, _, _, _, rfl, V_nil, V_nil, V_nil, V_nil, st5_below HB2.out (Nat.le_add_right _ 1) _ _ _ _ _⟩
 have b2 : decide (m < n) = false := decide_eq_false h2
 rw [if_neg (fun h => h.elim h1 h2)] at h
 obtain ⟨hn0, h⟩ := some_if h
 have hn1 : n ≤ 512 := by have := HM5.out; omega
 obtain ⟨p, hp, h⟩ := Option.bind_eq_some_iff.1 h
 obtain ⟨F, hF, h⟩ := Option.bind_eq_some_iff.1 h
 obtain ⟨L, hL, h⟩ := Option.bind_eq_some_iff.1 h
 obtain ⟨Fo, hFo, h⟩ := Option.bind_eq_some_iff.1 h
 obtain ⟨rfl, rfl, rfl, rfl, rfl, rfl⟩ := tup6 (Option.some.inj h)
 have HP := Lib.hid hp; have HF := Lib.hid hF; have HL := Lib.hid hL; have HFO := Lib.hid hFo; have HN0 := Lib.hid hn0; have HN1 := Lib.hid hn1
 clear h hp hF hL hFo h1 h2 hn0 hn1
 have HNG : Hid (¬ w.heap.size + 1 = w2.heap.size) := Lib.hid (fun h => Nat.lt_irrefl _ (h ▸ blk_lt KZ2.out))
 go_upto_region 9 with (fail)
 have hby := below_alloc (Below.refl w2.heap.size w2) (.cells #[.int .i64 n, .slice none 0 0, .slice none 0 0] 50)
 have KB : (w2.alloc (.cells #[.int .i64 n, .slice none 0 0, .slice none 0 0] 50)).heap[w2.heap.size]? = some (.cells #[.int .i64 n, .slice none 0 0, .slice none 0 0] 50 (0, 0)) := blk_new w2 _
 have HBB := Lib.hid (below_step HB2.out hby); have KEB := Lib.hid (blk_below KE2.out hby); have KZB := Lib.hid (blk_below KZ2.out hby)
 have hbd : Bd w (w2.alloc (.cells #[.int .i64 n, .slice none 0 0, .slice none 0 0] 50)) w2.heap.size (fun q => q = w2.heap.size) n [] [] := ⟨⟨_, _, KB, Kd.R_nil _ _ _ _ _, Kd.S_nil _ _ _ _ _⟩, rfl, fun q hq => by rw [hq]; exact ⟨HB2.out.size, by simp⟩⟩
 have HBdB := Lib.hid hbd; have HGB := Lib.hid HB2.out.size
 clear hby KB hbd HB2 KE2 KZ2
 generalize w2.alloc (.cells #[.int .i64 n, .slice none 0 0, .slice none 0 0] 50) = wB at HBB KEB KZB HBdB ⊢
 have HNG2 := Lib.hid HNG.out; clear HNG
 generalize w2.heap.size = g at HBdB HGB HNG2 ⊢
 obtain ⟨e0, e1, e2, e3, e4, _⟩ := cells5 KEB.out
 go_wp2_with (fail)
 clear e0 e1 e2 e3 e4
 (with_reducible refine (PartOk.call (part_calls n HN0.out HN1.out k) w wB g (fun q => q = g) [] [] ⟨a0_0, a0_1, a0_2, a0_3, l0_4⟩ A0_4 c0_4 p HBdB.out HT.out HBB.out HC.out Hc.out HP.out).mono ?_)
 rintro e w3 ⟨Z', A5, c5, A6, c6, rfl, h5, h6, hbd, hzi, hbb, hkk⟩
 have KZ3 := Lib.hid (blk_kept KZB.out hkk (fun h => HNG2.out h))
 have hbp := below_alloc (Below.refl w3.heap.size w3) (.cells #[.bool p.null, .slice A5 p.fst.length c5, .slice A6 p.lst.length c6] 54)
 have KP_ : (w3.alloc (.cells #[.bool p.null, .slice A5 p.fst.length c5, .slice A6 p.lst.length c6] 54)).heap[w3.heap.size]? = some (.cells #[.bool p.null, .slice A5 p.fst.length c5, .slice A6 p.lst.length c6] 54 (0, 0)) := blk_new w3 _
 have HBd4 := Lib.hid (hbd.below hbp); have HB4 := Lib.hid (below_step hbb hbp); have H54 := Lib.hid (V_of_R (b' := 0) (Kd.R_below h5 hbp)); have H64 := Lib.hid (V_of_R (b' := 0) (Kd.R_below h6 hbp)); have KZ4 := Lib.hid (blk_below KZ3.out hbp)
 clear h5 h6 hbd hzi hbb hkk hbp KZ3 KZB KEB HBdB HBB HC Hc HP
 go_upto_region 10 with (fail)
 generalize w3.alloc (.cells #[.bool p.null, .slice A5 p.fst.length c5, .slice A6 p.lst.length c6] 54) = w4 at KP_ HBd4 HB4 H54 H64 KZ4 ⊢
 generalize w3.heap.size = gp at KP_ ⊢
 obtain ⟨p0, p1, p2, _, _, _⟩ := cells3 KP_
 obtain ⟨⟨v1, v2, hbk, hRs, hSr⟩, hZg, hZr⟩ := HBd4.out
 obtain ⟨As, cs, rfl⟩ := Kd.R_slice hRs
 obtain ⟨Ar, cr, rfl⟩ := Kd.S_slice hSr
 have s1 : w4.cell? ⟨g, 1, none⟩ = some (.slice As p.syms.length cs) := (blk_cell hbk 1).trans rfl
 have HKB := Lib.hid hbk; have HRS := Lib.hid hRs; have HSR := Lib.hid hSr; have HZR := Lib.hid hZr
 clear hbk hRs hSr hZg hZr KP_ HBd4
 go_wp2_with (fail)
 refine start_ (n := 17) (S := fun w' => w'.cell? ⟨g, 1, none⟩ = some (.slice As p.syms.length cs) ∧ w'.cell? ⟨gp, 0, none⟩ = some (.bool p.null) ∧ w'.cell? ⟨gp, 1, none⟩ = some (.slice A5 p.fst.length c5) ∧ w'.cell? ⟨gp, 2, none⟩ = some (.slice A6 p.lst.length c6)) (ds := [16]) (S.um 17 0) (by kernel_rfl) rfl rfl ⟨s1, p0, p1, p2⟩ (fun hHeld => ?_); refine with_tabW RB10.tab RB10.bits (fun HT_ HW_ => ?_)
 have HB5 := Lib.hid (below_drew1 HB4.out); have H55 := Lib.hid (Kd.V_drew H54.out); have H65 := Lib.hid (Kd.V_drew H64.out); have KZ5 := Lib.hid (blk_drew KZ4.out); have HKB5 := Lib.hid (blk_drew HKB.out); have HRS5 := Lib.hid (Kd.R_drew HRS.out); have HSR5 := Lib.hid (Kd.S_drew HSR.out); have HZR5 : Hid (∀ q, Z' q → w.heap.size ≤ q ∧ q < w4.drew.heap.size) := HZR
 clear s1 p0 p1 p2 HB4 H54 H64 KZ4 HKB HRS HSR HZR
 generalize w4.drew = w5 at HB5 H55 H65 KZ5 HKB5 HRS5 HSR5 HZR5 hHeld ⊢
 refine S.p 17 0 38 1 HT_.out rfl rfl ?_
 refine S.p 17 1 39 3 HT_.out rfl rfl ?_
 refine S.p 17 2 40 7 HT_.out rfl rfl ?_
 refine S.p 17 4 42 23 HT_.out rfl rfl ?_
 refine S.p 17 6 44 87 HT_.out rfl rfl ?_
 refine S.p 17 9 47 599 HT_.out rfl rfl ?_
 refine S.p 17 12 50 4695 HT_.out rfl rfl ?_
 refine S.t 17 3 41 4703 HT_.out HW_.out rfl rfl hHeld ?_
 refine S.t 17 5 43 4735 HT_.out HW_.out rfl rfl hHeld ?_
 refine S.t 17 7 45 4863 HT_.out HW_.out rfl rfl hHeld ?_
 refine S.t 17 10 48 5887 HT_.out HW_.out rfl rfl hHeld ?_
 refine join_ (σ := Option Addr × Nat × Option Addr × Nat × Option Addr × Nat × Nat) 1 (S.um 17 65535) (fun s_ => [(46, .slice s_.1 F.length s_.2.1), (49, .slice s_.2.2.1 L.length s_.2.2.2.1), (51, .slice s_.2.2.2.2.1 n.toNat s_.2.2.2.2.2.1), (52, .agg #[.slice As p.syms.length cs, .bool p.null, .slice s_.1 F.length s_.2.1, .slice s_.2.2.1 L.length s_.2.2.2.1, .slice s_.2.2.2.2.1 n.toNat s_.2.2.2.2.2.1]), (10, .pointer (some ⟨s_.2.2.2.2.2.2, 0, none⟩))]) (fun s_ w' => Below w5.heap.size w5 w' ∧ w5.heap.size ≤ s_.2.2.2.2.2.2 ∧ w'.heap[s_.2.2.2.2.2.2]? = some (.cells #[.slice none 0 0, .bool false, .slice none 0 0, .slice none 0 0, .slice none 0 0] 33 (0, 0)) ∧ Kd.R (Kd.int .i64) 3 w' w5.heap.size (fun _ => True) (.slice s_.1 F.length s_.2.1) F ∧ Kd.R (Kd.int .i64) 3 w' w5.heap.size (fun _ => True) (.slice s_.2.2.1 L.length s_.2.2.2.1) L ∧ Kd.N (Kd.slice 3 (Kd.int .i64)) 25 w' w5.heap.size (fun k => w5.heap.size ≤ k ∧ k ≠ s_.2.2.2.2.2.2) (.slice s_.2.2.2.2.1 n.toNat s_.2.2.2.2.2.1) (List.replicate n.toNat [])) ?_ ?_; rotate_left
 ·intro hCont
  have HX := Lib.hid (Below.refl w5.heap.size w5)
  refine three_ (i := 8) (j := 13) (k := 15) (Ni := some 46) (Nj := some 51) (Nk := some 10) (S.um 17 6143) (S.um 17 14079) (S.um 17 38655) rfl rfl rfl rfl rfl rfl (three_of HT_.out (by kernel_rfl)) (by decide) (by decide) (by decide) (fun K hK => ?_) (fun K hK => ?_) (fun K hK => ?_)
  ·skip
   refine S.g Tryd.func20 #[.slice A5 p.fst.length c5] rfl rfl ?_; (with_reducible refine (Pr.glush_set_list.calls k A5 c5 p.fst F w5 (Kd.F_now (Kd.V_at (Kd.V_below H55.out HX.out)).2.2) (Kd.V_at H55.out).2.1 (HT.out.below (below_step HB5.out HX.out)) HF.out).mono ?_); rintro e y1 ⟨v8, rfl, hv8, hb⟩; obtain ⟨A8, c8, rfl⟩ := Kd.R_slice hv8; refine ⟨_, rfl, ?_⟩
   have HV8 := Lib.hid (Kd.R_lower hv8 HX.out.size); clear hv8
   replace HX := Lib.hid (below_step HX.out hb)
   refine hK.out _ _ ⟨cell_below hHeld.1 hb, cell_below hHeld.2.1 hb, cell_below hHeld.2.2.1 hb, cell_below hHeld.2.2.2 hb⟩ (fun hHeld => ?_); clear hK K hb; refine S.w 46 ?_
   refine three_ (i := 11) (j := 13) (k := 15) (Ni := some 49) (Nj := some 51) (Nk := some 10) (S.um 17 8191) (S.um 17 14335) (S.um 17 38911) rfl rfl rfl rfl rfl rfl (three_of HT_.out (by kernel_rfl)) (by decide) (by decide) (by decide) (fun K hK => ?_) (fun K hK => ?_) (fun K hK => ?_)
   ·skip
    refine S.g Tryd.func20 #[.slice A6 p.lst.length c6] rfl rfl ?_; (with_reducible refine (Pr.glush_set_list.calls k A6 c6 p.lst L y1 (Kd.F_now (Kd.V_at (Kd.V_below H65.out HX.out)).2.2) (Kd.V_at H65.out).2.1 (HT.out.below (below_step HB5.out HX.out)) HL.out).mono ?_); rintro e y2 ⟨v11, rfl, hv11, hb⟩; obtain ⟨A11, c11, rfl⟩ := Kd.R_slice hv11; refine ⟨_, rfl, ?_⟩
    have HV11 := Lib.hid (Kd.R_lower hv11 HX.out.size); clear hv11
    replace HV8 := Lib.hid (Kd.R_below HV8.out hb)
    replace HX := Lib.hid (below_step HX.out hb)
    refine hK.out _ _ ⟨cell_below hHeld.1 hb, cell_below hHeld.2.1 hb, cell_below hHeld.2.2.1 hb, cell_below hHeld.2.2.2 hb⟩ (fun hHeld => ?_); clear hK K hb; refine S.w 49 ?_
    refine two_ (i := 13) (j := 15) (Ni := some 51) (Nj := some 10) (S.um 17 16383) (S.um 17 40959) rfl rfl rfl rfl (two_of HT_.out (by kernel_rfl)) (by decide) (by decide) (fun K hK => ?_) (fun K hK => ?_)
    ·skip
     refine Kd.N_make_step (Kd.slice 3 (Kd.int .i64)) (w0 := y2) (W := y2) y2.heap.size 25 (by rfl) (N' := 51) rfl 31 (.tmp 50) (.tmp 50) rfl n (by rfl) (by rfl) Tryd.underlying31 (.slice none 0 0) 24 (by kernel_rfl) rfl (by decide) (by decide) [] (ok := fun k => y2.heap.size ≤ k) (okp := fun k => y2.heap.size ≤ k) (Kd.FK_slice_mk (Nat.le_refl _) (Kd.V_at (V_nil (e := 3) (b := 0))).2.2) (fun _ h => h) (Nat.le_refl _) HN0.out (by have := HN1.out; omega) (Below.refl _ _) (Nat.le_refl _) ?_
     intro v13 y3 hv13 hb _ _
     obtain ⟨A13, c13, rfl⟩ : ∃ A c, v13 = .slice A n.toNat c := by obtain ⟨A, c, h⟩ := Kd.N_slice hv13; exact ⟨A, c, by rw [h, List.length_replicate]⟩
     have HV13 := Lib.hid (Kd.N_lower (Kd.N_mono hv13 (ok' := fun k => w5.heap.size ≤ k) (fun k h => Nat.le_trans HX.out.size h)) HX.out.size); clear hv13
     replace HV8 := Lib.hid (Kd.R_below HV8.out hb); replace HV11 := Lib.hid (Kd.R_below HV11.out hb)
     replace HX := Lib.hid (below_step HX.out hb)
     refine hK.out _ _ ⟨cell_below hHeld.1 hb, cell_below hHeld.2.1 hb, cell_below hHeld.2.2.1 hb, cell_below hHeld.2.2.2 hb⟩ (fun hHeld => ?_); clear hK K hb; refine S.w 51 ?_
     refine S.p 17 14 52 32767 HT_.out rfl rfl ?_
     refine S.o 17 15 10 65535 HT_.out rfl rfl (fun K hK => ?_)
     refine box_step ?hg (N := 10) ?hd (cs := #[.slice none 0 0, .bool false, .slice none 0 0, .slice none 0 0, .slice none 0 0]) (t := 33) ?hr ?_; (case hd => rfl); (case hg => rfl); (case hr => first | (go_simp; done) | (go_simp; rfl)); intro g10 hg y4 hbox hb
     have HGE := Lib.hid (Nat.le_trans HX.out.size (Nat.le_of_eq hg.symm)); have HG10 := Lib.hid hbox; replace HV13 := Lib.hid (Kd.N_mono (Kd.N_bound HV13.out) (ok' := fun k => w5.heap.size ≤ k ∧ k ≠ g10) (fun k h => ⟨h.1, fun e => Nat.lt_irrefl _ (hg ▸ e ▸ h.2)⟩)); clear hg hbox
     replace HV8 := Lib.hid (Kd.R_below HV8.out hb); replace HV11 := Lib.hid (Kd.R_below HV11.out hb); replace HV13 := Lib.hid (Kd.N_below HV13.out hb)
     replace HX := Lib.hid (below_step HX.out hb)
     refine hK.out _ _ ⟨cell_below hHeld.1 hb, cell_below hHeld.2.1 hb, cell_below hHeld.2.2.1 hb, cell_below hHeld.2.2.2 hb⟩ (fun hHeld => ?_); clear hK K hb; refine S.w 10 ?_
     exact norm_ (by simp only [putAll, Act.put, List.setIfInBounds_toArray, List.set_cons_zero, List.set_cons_succ]) (hCont (A8, c8, A11, c11, A13, c13, g10) _ ⟨HX.out, HGE.out, HG10.out, HV8.out, HV11.out, HV13.out⟩)
    ·skip
     refine box_step ?hg (N := 10) ?hd (cs := #[.slice none 0 0, .bool false, .slice none 0 0, .slice none 0 0, .slice none 0 0]) (t := 33) ?hr ?_; (case hd => rfl); (case hg => rfl); (case hr => first | (go_simp; done) | (go_simp; rfl)); intro g10 hg y3 hbox hb
     have HGE := Lib.hid (Nat.le_trans HX.out.size (Nat.le_of_eq hg.symm)); have HG10 := Lib.hid hbox; clear hg hbox
     replace HV8 := Lib.hid (Kd.R_below HV8.out hb); replace HV11 := Lib.hid (Kd.R_below HV11.out hb)
     replace HX := Lib.hid (below_step HX.out hb)
     refine hK.out _ _ ⟨cell_below hHeld.1 hb, cell_below hHeld.2.1 hb, cell_below hHeld.2.2.1 hb, cell_below hHeld.2.2.2 hb⟩ (fun hHeld => ?_); clear hK K hb; refine S.w 10 ?_
     refine S.o 17 13 51 49151 HT_.out rfl rfl (fun K hK => ?_)
     refine Kd.N_make_step (Kd.slice 3 (Kd.int .i64)) (w0 := y3) (W := y3) y3.heap.size 25 (by rfl) (N' := 51) rfl 31 (.tmp 50) (.tmp 50) rfl n (by rfl) (by rfl) Tryd.underlying31 (.slice none 0 0) 24 (by kernel_rfl) rfl (by decide) (by decide) [] (ok := fun k => y3.heap.size ≤ k) (okp := fun k => y3.heap.size ≤ k) (Kd.FK_slice_mk (Nat.le_refl _) (Kd.V_at (V_nil (e := 3) (b := 0))).2.2) (fun _ h => h) (Nat.le_refl _) HN0.out (by have := HN1.out; omega) (Below.refl _ _) (Nat.le_refl _) ?_
     intro v13 y4 hv13 hb _ _
     obtain ⟨A13, c13, rfl⟩ : ∃ A c, v13 = .slice A n.toNat c := by obtain ⟨A, c, h⟩ := Kd.N_slice hv13; exact ⟨A, c, by rw [h, List.length_replicate]⟩
     have HV13 := Lib.hid (Kd.N_lower (Kd.N_mono hv13 (ok' := fun k => w5.heap.size ≤ k ∧ k ≠ g10) (fun k h => ⟨Nat.le_trans HX.out.size h, fun e => Nat.lt_irrefl _ (Nat.lt_of_lt_of_le (e ▸ blk_lt HG10.out) h)⟩)) HX.out.size); clear hv13
     replace HV8 := Lib.hid (Kd.R_below HV8.out hb); replace HV11 := Lib.hid (Kd.R_below HV11.out hb); replace HG10 := Lib.hid (blk_below HG10.out hb)
     replace HX := Lib.hid (below_step HX.out hb)
     refine hK.out _ _ ⟨cell_below hHeld.1 hb, cell_below hHeld.2.1 hb, cell_below hHeld.2.2.1 hb, cell_below hHeld.2.2.2 hb⟩ (fun hHeld => ?_); clear hK K hb; refine S.w 51 ?_
     refine S.p 17 14 52 65535 HT_.out rfl rfl ?_
     exact norm_ (by simp only [putAll, Act.put, List.setIfInBounds_toArray, List.set_cons_zero, List.set_cons_succ]) (hCont (A8, c8, A11, c11, A13, c13, g10) _ ⟨HX.out, HGE.out, HG10.out, HV8.out, HV11.out, HV13.out⟩)
   ·skip
    refine Kd.N_make_step (Kd.slice 3 (Kd.int .i64)) (w0 := y1) (W := y1) y1.heap.size 25 (by rfl) (N' := 51) rfl 31 (.tmp 50) (.tmp 50) rfl n (by rfl) (by rfl) Tryd.underlying31 (.slice none 0 0) 24 (by kernel_rfl) rfl (by decide) (by decide) [] (ok := fun k => y1.heap.size ≤ k) (okp := fun k => y1.heap.size ≤ k) (Kd.FK_slice_mk (Nat.le_refl _) (Kd.V_at (V_nil (e := 3) (b := 0))).2.2) (fun _ h => h) (Nat.le_refl _) HN0.out (by have := HN1.out; omega) (Below.refl _ _) (Nat.le_refl _) ?_
    intro v13 y2 hv13 hb _ _
    obtain ⟨A13, c13, rfl⟩ : ∃ A c, v13 = .slice A n.toNat c := by obtain ⟨A, c, h⟩ := Kd.N_slice hv13; exact ⟨A, c, by rw [h, List.length_replicate]⟩
    have HV13 := Lib.hid (Kd.N_lower (Kd.N_mono hv13 (ok' := fun k => w5.heap.size ≤ k) (fun k h => Nat.le_trans HX.out.size h)) HX.out.size); clear hv13
    replace HV8 := Lib.hid (Kd.R_below HV8.out hb)
    replace HX := Lib.hid (below_step HX.out hb)
    refine hK.out _ _ ⟨cell_below hHeld.1 hb, cell_below hHeld.2.1 hb, cell_below hHeld.2.2.1 hb, cell_below hHeld.2.2.2 hb⟩ (fun hHeld => ?_); clear hK K hb; refine S.w 51 ?_
    refine two_ (i := 11) (j := 15) (Ni := some 49) (Nj := some 10) (S.um 17 16383) (S.um 17 47103) rfl rfl rfl rfl (two_of HT_.out (by kernel_rfl)) (by decide) (by decide) (fun K hK => ?_) (fun K hK => ?_)
    ·skip
     refine S.g Tryd.func20 #[.slice A6 p.lst.length c6] rfl rfl ?_; (with_reducible refine (Pr.glush_set_list.calls k A6 c6 p.lst L y2 (Kd.F_now (Kd.V_at (Kd.V_below H65.out HX.out)).2.2) (Kd.V_at H65.out).2.1 (HT.out.below (below_step HB5.out HX.out)) HL.out).mono ?_); rintro e y3 ⟨v11, rfl, hv11, hb⟩; obtain ⟨A11, c11, rfl⟩ := Kd.R_slice hv11; refine ⟨_, rfl, ?_⟩
     have HV11 := Lib.hid (Kd.R_lower hv11 HX.out.size); clear hv11
     replace HV8 := Lib.hid (Kd.R_below HV8.out hb); replace HV13 := Lib.hid (Kd.N_below HV13.out hb)
     replace HX := Lib.hid (below_step HX.out hb)
     refine hK.out _ _ ⟨cell_below hHeld.1 hb, cell_below hHeld.2.1 hb, cell_below hHeld.2.2.1 hb, cell_below hHeld.2.2.2 hb⟩ (fun hHeld => ?_); clear hK K hb; refine S.w 49 ?_
     refine S.p 17 14 52 32767 HT_.out rfl rfl ?_
     refine S.o 17 15 10 65535 HT_.out rfl rfl (fun K hK => ?_)
     refine box_step ?hg (N := 10) ?hd (cs := #[.slice none 0 0, .bool false, .slice none 0 0, .slice none 0 0, .slice none 0 0]) (t := 33) ?hr ?_; (case hd => rfl); (case hg => rfl); (case hr => first | (go_simp; done) | (go_simp; rfl)); intro g10 hg y4 hbox hb
     have HGE := Lib.hid (Nat.le_trans HX.out.size (Nat.le_of_eq hg.symm)); have HG10 := Lib.hid hbox; replace HV13 := Lib.hid (Kd.N_mono (Kd.N_bound HV13.out) (ok' := fun k => w5.heap.size ≤ k ∧ k ≠ g10) (fun k h => ⟨h.1, fun e => Nat.lt_irrefl _ (hg ▸ e ▸ h.2)⟩)); clear hg hbox
     replace HV8 := Lib.hid (Kd.R_below HV8.out hb); replace HV11 := Lib.hid (Kd.R_below HV11.out hb); replace HV13 := Lib.hid (Kd.N_below HV13.out hb)
     replace HX := Lib.hid (below_step HX.out hb)
     refine hK.out _ _ ⟨cell_below hHeld.1 hb, cell_below hHeld.2.1 hb, cell_below hHeld.2.2.1 hb, cell_below hHeld.2.2.2 hb⟩ (fun hHeld => ?_); clear hK K hb; refine S.w 10 ?_
     exact norm_ (by simp only [putAll, Act.put, List.setIfInBounds_toArray, List.set_cons_zero, List.set_cons_succ]) (hCont (A8, c8, A11, c11, A13, c13, g10) _ ⟨HX.out, HGE.out, HG10.out, HV8.out, HV11.out, HV13.out⟩)
    ·skip
     refine box_step ?hg (N := 10) ?hd (cs := #[.slice none 0 0, .bool false, .slice none 0 0, .slice none 0 0, .slice none 0 0]) (t := 33) ?hr ?_; (case hd => rfl); (case hg => rfl); (case hr => first | (go_simp; done) | (go_simp; rfl)); intro g10 hg y3 hbox hb
     have HGE := Lib.hid (Nat.le_trans HX.out.size (Nat.le_of_eq hg.symm)); have HG10 := Lib.hid hbox; replace HV13 := Lib.hid (Kd.N_mono (Kd.N_bound HV13.out) (ok' := fun k => w5.heap.size ≤ k ∧ k ≠ g10) (fun k h => ⟨h.1, fun e => Nat.lt_irrefl _ (hg ▸ e ▸ h.2)⟩)); clear hg hbox
     replace HV8 := Lib.hid (Kd.R_below HV8.out hb); replace HV13 := Lib.hid (Kd.N_below HV13.out hb)
     replace HX := Lib.hid (below_step HX.out hb)
     refine hK.out _ _ ⟨cell_below hHeld.1 hb, cell_below hHeld.2.1 hb, cell_below hHeld.2.2.1 hb, cell_below hHeld.2.2.2 hb⟩ (fun hHeld => ?_); clear hK K hb; refine S.w 10 ?_
     refine S.o 17 11 49 49151 HT_.out rfl rfl (fun K hK => ?_)
     refine S.g Tryd.func20 #[.slice A6 p.lst.length c6] rfl rfl ?_; (with_reducible refine (Pr.glush_set_list.calls k A6 c6 p.lst L y3 (Kd.F_now (Kd.V_at (Kd.V_below H65.out HX.out)).2.2) (Kd.V_at H65.out).2.1 (HT.out.below (below_step HB5.out HX.out)) HL.out).mono ?_); rintro e y4 ⟨v11, rfl, hv11, hb⟩; obtain ⟨A11, c11, rfl⟩ := Kd.R_slice hv11; refine ⟨_, rfl, ?_⟩
     have HV11 := Lib.hid (Kd.R_lower hv11 HX.out.size); clear hv11
     replace HV8 := Lib.hid (Kd.R_below HV8.out hb); replace HV13 := Lib.hid (Kd.N_below HV13.out hb); replace HG10 := Lib.hid (blk_below HG10.out hb)
     replace HX := Lib.hid (below_step HX.out hb)
     refine hK.out _ _ ⟨cell_below hHeld.1 hb, cell_below hHeld.2.1 hb, cell_below hHeld.2.2.1 hb, cell_below hHeld.2.2.2 hb⟩ (fun hHeld => ?_); clear hK K hb; refine S.w 49 ?_
     refine S.p 17 14 52 65535 HT_.out rfl rfl ?_
     exact norm_ (by simp only [putAll, Act.put, List.setIfInBounds_toArray, List.set_cons_zero, List.set_cons_succ]) (hCont (A8, c8, A11, c11, A13, c13, g10) _ ⟨HX.out, HGE.out, HG10.out, HV8.out, HV11.out, HV13.out⟩)
   ·skip
    refine box_step ?hg (N := 10) ?hd (cs := #[.slice none 0 0, .bool false, .slice none 0 0, .slice none 0 0, .slice none 0 0]) (t := 33) ?hr ?_; (case hd => rfl); (case hg => rfl); (case hr => first | (go_simp; done) | (go_simp; rfl)); intro g10 hg y2 hbox hb
    have HGE := Lib.hid (Nat.le_trans HX.out.size (Nat.le_of_eq hg.symm)); have HG10 := Lib.hid hbox; clear hg hbox
    replace HV8 := Lib.hid (Kd.R_below HV8.out hb)
    replace HX := Lib.hid (below_step HX.out hb)
    refine hK.out _ _ ⟨cell_below hHeld.1 hb, cell_below hHeld.2.1 hb, cell_below hHeld.2.2.1 hb, cell_below hHeld.2.2.2 hb⟩ (fun hHeld => ?_); clear hK K hb; refine S.w 10 ?_
    refine two_ (i := 11) (j := 13) (Ni := some 49) (Nj := some 51) (S.um 17 40959) (S.um 17 47103) rfl rfl rfl rfl (two_of HT_.out (by kernel_rfl)) (by decide) (by decide) (fun K hK => ?_) (fun K hK => ?_)
    ·skip
     refine S.g Tryd.func20 #[.slice A6 p.lst.length c6] rfl rfl ?_; (with_reducible refine (Pr.glush_set_list.calls k A6 c6 p.lst L y2 (Kd.F_now (Kd.V_at (Kd.V_below H65.out HX.out)).2.2) (Kd.V_at H65.out).2.1 (HT.out.below (below_step HB5.out HX.out)) HL.out).mono ?_); rintro e y3 ⟨v11, rfl, hv11, hb⟩; obtain ⟨A11, c11, rfl⟩ := Kd.R_slice hv11; refine ⟨_, rfl, ?_⟩
     have HV11 := Lib.hid (Kd.R_lower hv11 HX.out.size); clear hv11
     replace HV8 := Lib.hid (Kd.R_below HV8.out hb); replace HG10 := Lib.hid (blk_below HG10.out hb)
     replace HX := Lib.hid (below_step HX.out hb)
     refine hK.out _ _ ⟨cell_below hHeld.1 hb, cell_below hHeld.2.1 hb, cell_below hHeld.2.2.1 hb, cell_below hHeld.2.2.2 hb⟩ (fun hHeld => ?_); clear hK K hb; refine S.w 49 ?_
     refine S.o 17 13 51 49151 HT_.out rfl rfl (fun K hK => ?_)
     refine Kd.N_make_step (Kd.slice 3 (Kd.int .i64)) (w0 := y3) (W := y3) y3.heap.size 25 (by rfl) (N' := 51) rfl 31 (.tmp 50) (.tmp 50) rfl n (by rfl) (by rfl) Tryd.underlying31 (.slice none 0 0) 24 (by kernel_rfl) rfl (by decide) (by decide) [] (ok := fun k => y3.heap.size ≤ k) (okp := fun k => y3.heap.size ≤ k) (Kd.FK_slice_mk (Nat.le_refl _) (Kd.V_at (V_nil (e := 3) (b := 0))).2.2) (fun _ h => h) (Nat.le_refl _) HN0.out (by have := HN1.out; omega) (Below.refl _ _) (Nat.le_refl _) ?_
     intro v13 y4 hv13 hb _ _
     obtain ⟨A13, c13, rfl⟩ : ∃ A c, v13 = .slice A n.toNat c := by obtain ⟨A, c, h⟩ := Kd.N_slice hv13; exact ⟨A, c, by rw [h, List.length_replicate]⟩
     have HV13 := Lib.hid (Kd.N_lower (Kd.N_mono hv13 (ok' := fun k => w5.heap.size ≤ k ∧ k ≠ g10) (fun k h => ⟨Nat.le_trans HX.out.size h, fun e => Nat.lt_irrefl _ (Nat.lt_of_lt_of_le (e ▸ blk_lt HG10.out) h)⟩)) HX.out.size); clear hv13
     replace HV8 := Lib.hid (Kd.R_below HV8.out hb); replace HV11 := Lib.hid (Kd.R_below HV11.out hb); replace HG10 := Lib.hid (blk_below HG10.out hb)
     replace HX := Lib.hid (below_step HX.out hb)
     refine hK.out _ _ ⟨cell_below hHeld.1 hb, cell_below hHeld.2.1 hb, cell_below hHeld.2.2.1 hb, cell_below hHeld.2.2.2 hb⟩ (fun hHeld => ?_); clear hK K hb; refine S.w 51 ?_
     refine S.p 17 14 52 65535 HT_.out rfl rfl ?_
     exact norm_ (by simp only [putAll, Act.put, List.setIfInBounds_toArray, List.set_cons_zero, List.set_cons_succ]) (hCont (A8, c8, A11, c11, A13, c13, g10) _ ⟨HX.out, HGE.out, HG10.out, HV8.out, HV11.out, HV13.out⟩)
    ·skip
     refine Kd.N_make_step (Kd.slice 3 (Kd.int .i64)) (w0 := y2) (W := y2) y2.heap.size 25 (by rfl) (N' := 51) rfl 31 (.tmp 50) (.tmp 50) rfl n (by rfl) (by rfl) Tryd.underlying31 (.slice none 0 0) 24 (by kernel_rfl) rfl (by decide) (by decide) [] (ok := fun k => y2.heap.size ≤ k) (okp := fun k => y2.heap.size ≤ k) (Kd.FK_slice_mk (Nat.le_refl _) (Kd.V_at (V_nil (e := 3) (b := 0))).2.2) (fun _ h => h) (Nat.le_refl _) HN0.out (by have := HN1.out; omega) (Below.refl _ _) (Nat.le_refl _) ?_
     intro v13 y3 hv13 hb _ _
     obtain ⟨A13, c13, rfl⟩ : ∃ A c, v13 = .slice A n.toNat c := by obtain ⟨A, c, h⟩ := Kd.N_slice hv13; exact ⟨A, c, by rw [h, List.length_replicate]⟩
     have HV13 := Lib.hid (Kd.N_lower (Kd.N_mono hv13 (ok' := fun k => w5.heap.size ≤ k ∧ k ≠ g10) (fun k h => ⟨Nat.le_trans HX.out.size h, fun e => Nat.lt_irrefl _ (Nat.lt_of_lt_of_le (e ▸ blk_lt HG10.out) h)⟩)) HX.out.size); clear hv13
     replace HV8 := Lib.hid (Kd.R_below HV8.out hb); replace HG10 := Lib.hid (blk_below HG10.out hb)
     replace HX := Lib.hid (below_step HX.out hb)
     refine hK.out _ _ ⟨cell_below hHeld.1 hb, cell_below hHeld.2.1 hb, cell_below hHeld.2.2.1 hb, cell_below hHeld.2.2.2 hb⟩ (fun hHeld => ?_); clear hK K hb; refine S.w 51 ?_
     refine S.o 17 11 49 49151 HT_.out rfl rfl (fun K hK => ?_)
     refine S.g Tryd.func20 #[.slice A6 p.lst.length c6] rfl rfl ?_; (with_reducible refine (Pr.glush_set_list.calls k A6 c6 p.lst L y3 (Kd.F_now (Kd.V_at (Kd.V_below H65.out HX.out)).2.2) (Kd.V_at H65.out).2.1 (HT.out.below (below_step HB5.out HX.out)) HL.out).mono ?_); rintro e y4 ⟨v11, rfl, hv11, hb⟩; obtain ⟨A11, c11, rfl⟩ := Kd.R_slice hv11; refine ⟨_, rfl, ?_⟩
     have HV11 := Lib.hid (Kd.R_lower hv11 HX.out.size); clear hv11
     replace HV8 := Lib.hid (Kd.R_below HV8.out hb); replace HV13 := Lib.hid (Kd.N_below HV13.out hb); replace HG10 := Lib.hid (blk_below HG10.out hb)
     replace HX := Lib.hid (below_step HX.out hb)
     refine hK.out _ _ ⟨cell_below hHeld.1 hb, cell_below hHeld.2.1 hb, cell_below hHeld.2.2.1 hb, cell_below hHeld.2.2.2 hb⟩ (fun hHeld => ?_); clear hK K hb; refine S.w 49 ?_
     refine S.p 17 14 52 65535 HT_.out rfl rfl ?_
     exact norm_ (by simp only [putAll, Act.put, List.setIfInBounds_toArray, List.set_cons_zero, List.set_cons_succ]) (hCont (A8, c8, A11, c11, A13, c13, g10) _ ⟨HX.out, HGE.out, HG10.out, HV8.out, HV11.out, HV13.out⟩)
  ·skip
   refine Kd.N_make_step (Kd.slice 3 (Kd.int .i64)) (w0 := w5) (W := w5) w5.heap.size 25 (by rfl) (N' := 51) rfl 31 (.tmp 50) (.tmp 50) rfl n (by rfl) (by rfl) Tryd.underlying31 (.slice none 0 0) 24 (by kernel_rfl) rfl (by decide) (by decide) [] (ok := fun k => w5.heap.size ≤ k) (okp := fun k => w5.heap.size ≤ k) (Kd.FK_slice_mk (Nat.le_refl _) (Kd.V_at (V_nil (e := 3) (b := 0))).2.2) (fun _ h => h) (Nat.le_refl _) HN0.out (by have := HN1.out; omega) (Below.refl _ _) (Nat.le_refl _) ?_
   intro v13 y1 hv13 hb _ _
   obtain ⟨A13, c13, rfl⟩ : ∃ A c, v13 = .slice A n.toNat c := by obtain ⟨A, c, h⟩ := Kd.N_slice hv13; exact ⟨A, c, by rw [h, List.length_replicate]⟩
   have HV13 := Lib.hid (Kd.N_lower (Kd.N_mono hv13 (ok' := fun k => w5.heap.size ≤ k) (fun k h => Nat.le_trans HX.out.size h)) HX.out.size); clear hv13
   replace HX := Lib.hid (below_step HX.out hb)
   refine hK.out _ _ ⟨cell_below hHeld.1 hb, cell_below hHeld.2.1 hb, cell_below hHeld.2.2.1 hb, cell_below hHeld.2.2.2 hb⟩ (fun hHeld => ?_); clear hK K hb; refine S.w 51 ?_
   refine two_ (i := 8) (j := 15) (Ni := some 46) (Nj := some 10) (S.um 17 14335) (S.um 17 46847) rfl rfl rfl rfl (two_of HT_.out (by kernel_rfl)) (by decide) (by decide) (fun K hK => ?_) (fun K hK => ?_)
   ·skip
    refine S.g Tryd.func20 #[.slice A5 p.fst.length c5] rfl rfl ?_; (with_reducible refine (Pr.glush_set_list.calls k A5 c5 p.fst F y1 (Kd.F_now (Kd.V_at (Kd.V_below H55.out HX.out)).2.2) (Kd.V_at H55.out).2.1 (HT.out.below (below_step HB5.out HX.out)) HF.out).mono ?_); rintro e y2 ⟨v8, rfl, hv8, hb⟩; obtain ⟨A8, c8, rfl⟩ := Kd.R_slice hv8; refine ⟨_, rfl, ?_⟩
    have HV8 := Lib.hid (Kd.R_lower hv8 HX.out.size); clear hv8
    replace HV13 := Lib.hid (Kd.N_below HV13.out hb)
    replace HX := Lib.hid (below_step HX.out hb)
    refine hK.out _ _ ⟨cell_below hHeld.1 hb, cell_below hHeld.2.1 hb, cell_below hHeld.2.2.1 hb, cell_below hHeld.2.2.2 hb⟩ (fun hHeld => ?_); clear hK K hb; refine S.w 46 ?_
    refine two_ (i := 11) (j := 15) (Ni := some 49) (Nj := some 10) (S.um 17 16383) (S.um 17 47103) rfl rfl rfl rfl (two_of HT_.out (by kernel_rfl)) (by decide) (by decide) (fun K hK => ?_) (fun K hK => ?_)
    ·skip
     refine S.g Tryd.func20 #[.slice A6 p.lst.length c6] rfl rfl ?_; (with_reducible refine (Pr.glush_set_list.calls k A6 c6 p.lst L y2 (Kd.F_now (Kd.V_at (Kd.V_below H65.out HX.out)).2.2) (Kd.V_at H65.out).2.1 (HT.out.below (below_step HB5.out HX.out)) HL.out).mono ?_); rintro e y3 ⟨v11, rfl, hv11, hb⟩; obtain ⟨A11, c11, rfl⟩ := Kd.R_slice hv11; refine ⟨_, rfl, ?_⟩
     have HV11 := Lib.hid (Kd.R_lower hv11 HX.out.size); clear hv11
     replace HV8 := Lib.hid (Kd.R_below HV8.out hb); replace HV13 := Lib.hid (Kd.N_below HV13.out hb)
     replace HX := Lib.hid (below_step HX.out hb)
     refine hK.out _ _ ⟨cell_below hHeld.1 hb, cell_below hHeld.2.1 hb, cell_below hHeld.2.2.1 hb, cell_below hHeld.2.2.2 hb⟩ (fun hHeld => ?_); clear hK K hb; refine S.w 49 ?_
     refine S.p 17 14 52 32767 HT_.out rfl rfl ?_
     refine S.o 17 15 10 65535 HT_.out rfl rfl (fun K hK => ?_)
     refine box_step ?hg (N := 10) ?hd (cs := #[.slice none 0 0, .bool false, .slice none 0 0, .slice none 0 0, .slice none 0 0]) (t := 33) ?hr ?_; (case hd => rfl); (case hg => rfl); (case hr => first | (go_simp; done) | (go_simp; rfl)); intro g10 hg y4 hbox hb
     have HGE := Lib.hid (Nat.le_trans HX.out.size (Nat.le_of_eq hg.symm)); have HG10 := Lib.hid hbox; replace HV13 := Lib.hid (Kd.N_mono (Kd.N_bound HV13.out) (ok' := fun k => w5.heap.size ≤ k ∧ k ≠ g10) (fun k h => ⟨h.1, fun e => Nat.lt_irrefl _ (hg ▸ e ▸ h.2)⟩)); clear hg hbox
     replace HV8 := Lib.hid (Kd.R_below HV8.out hb); replace HV11 := Lib.hid (Kd.R_below HV11.out hb); replace HV13 := Lib.hid (Kd.N_below HV13.out hb)
     replace HX := Lib.hid (below_step HX.out hb)
     refine hK.out _ _ ⟨cell_below hHeld.1 hb, cell_below hHeld.2.1 hb, cell_below hHeld.2.2.1 hb, cell_below hHeld.2.2.2 hb⟩ (fun hHeld => ?_); clear hK K hb; refine S.w 10 ?_
     exact norm_ (by simp only [putAll, Act.put, List.setIfInBounds_toArray, List.set_cons_zero, List.set_cons_succ]) (hCont (A8, c8, A11, c11, A13, c13, g10) _ ⟨HX.out, HGE.out, HG10.out, HV8.out, HV11.out, HV13.out⟩)
    ·skip
     refine box_step ?hg (N := 10) ?hd (cs := #[.slice none 0 0, .bool false, .slice none 0 0, .slice none 0 0, .slice none 0 0]) (t := 33) ?hr ?_; (case hd => rfl); (case hg => rfl); (case hr => first | (go_simp; done) | (go_simp; rfl)); intro g10 hg y3 hbox hb
     have HGE := Lib.hid (Nat.le_trans HX.out.size (Nat.le_of_eq hg.symm)); have HG10 := Lib.hid hbox; replace HV13 := Lib.hid (Kd.N_mono (Kd.N_bound HV13.out) (ok' := fun k => w5.heap.size ≤ k ∧ k ≠ g10) (fun k h => ⟨h.1, fun e => Nat.lt_irrefl _ (hg ▸ e ▸ h.2)⟩)); clear hg hbox
     replace HV8 := Lib.hid (Kd.R_below HV8.out hb); replace HV13 := Lib.hid (Kd.N_below HV13.out hb)
     replace HX := Lib.hid (below_step HX.out hb)
     refine hK.out _ _ ⟨cell_below hHeld.1 hb, cell_below hHeld.2.1 hb, cell_below hHeld.2.2.1 hb, cell_below hHeld.2.2.2 hb⟩ (fun hHeld => ?_); clear hK K hb; refine S.w 10 ?_
     refine S.o 17 11 49 49151 HT_.out rfl rfl (fun K hK => ?_)
     refine S.g Tryd.func20 #[.slice A6 p.lst.length c6] rfl rfl ?_; (with_reducible refine (Pr.glush_set_list.calls k A6 c6 p.lst L y3 (Kd.F_now (Kd.V_at (Kd.V_below H65.out HX.out)).2.2) (Kd.V_at H65.out).2.1 (HT.out.below (below_step HB5.out HX.out)) HL.out).mono ?_); rintro e y4 ⟨v11, rfl, hv11, hb⟩; obtain ⟨A11, c11, rfl⟩ := Kd.R_slice hv11; refine ⟨_, rfl, ?_⟩
     have HV11 := Lib.hid (Kd.R_lower hv11 HX.out.size); clear hv11
     replace HV8 := Lib.hid (Kd.R_below HV8.out hb); replace HV13 := Lib.hid (Kd.N_below HV13.out hb); replace HG10 := Lib.hid (blk_below HG10.out hb)
     replace HX := Lib.hid (below_step HX.out hb)
     refine hK.out _ _ ⟨cell_below hHeld.1 hb, cell_below hHeld.2.1 hb, cell_below hHeld.2.2.1 hb, cell_below hHeld.2.2.2 hb⟩ (fun hHeld => ?_); clear hK K hb; refine S.w 49 ?_
     refine S.p 17 14 52 65535 HT_.out rfl rfl ?_
     exact norm_ (by simp only [putAll, Act.put, List.setIfInBounds_toArray, List.set_cons_zero, List.set_cons_succ]) (hCont (A8, c8, A11, c11, A13, c13, g10) _ ⟨HX.out, HGE.out, HG10.out, HV8.out, HV11.out, HV13.out⟩)
   ·skip
    refine box_step ?hg (N := 10) ?hd (cs := #[.slice none 0 0, .bool false, .slice none 0 0, .slice none 0 0, .slice none 0 0]) (t := 33) ?hr ?_; (case hd => rfl); (case hg => rfl); (case hr => first | (go_simp; done) | (go_simp; rfl)); intro g10 hg y2 hbox hb
    have HGE := Lib.hid (Nat.le_trans HX.out.size (Nat.le_of_eq hg.symm)); have HG10 := Lib.hid hbox; replace HV13 := Lib.hid (Kd.N_mono (Kd.N_bound HV13.out) (ok' := fun k => w5.heap.size ≤ k ∧ k ≠ g10) (fun k h => ⟨h.1, fun e => Nat.lt_irrefl _ (hg ▸ e ▸ h.2)⟩)); clear hg hbox
    replace HV13 := Lib.hid (Kd.N_below HV13.out hb)
    replace HX := Lib.hid (below_step HX.out hb)
    refine hK.out _ _ ⟨cell_below hHeld.1 hb, cell_below hHeld.2.1 hb, cell_below hHeld.2.2.1 hb, cell_below hHeld.2.2.2 hb⟩ (fun hHeld => ?_); clear hK K hb; refine S.w 10 ?_
    refine S.o 17 8 46 47103 HT_.out rfl rfl (fun K hK => ?_)
    refine S.g Tryd.func20 #[.slice A5 p.fst.length c5] rfl rfl ?_; (with_reducible refine (Pr.glush_set_list.calls k A5 c5 p.fst F y2 (Kd.F_now (Kd.V_at (Kd.V_below H55.out HX.out)).2.2) (Kd.V_at H55.out).2.1 (HT.out.below (below_step HB5.out HX.out)) HF.out).mono ?_); rintro e y3 ⟨v8, rfl, hv8, hb⟩; obtain ⟨A8, c8, rfl⟩ := Kd.R_slice hv8; refine ⟨_, rfl, ?_⟩
    have HV8 := Lib.hid (Kd.R_lower hv8 HX.out.size); clear hv8
    replace HV13 := Lib.hid (Kd.N_below HV13.out hb); replace HG10 := Lib.hid (blk_below HG10.out hb)
    replace HX := Lib.hid (below_step HX.out hb)
    refine hK.out _ _ ⟨cell_below hHeld.1 hb, cell_below hHeld.2.1 hb, cell_below hHeld.2.2.1 hb, cell_below hHeld.2.2.2 hb⟩ (fun hHeld => ?_); clear hK K hb; refine S.w 46 ?_
    refine S.o 17 11 49 49151 HT_.out rfl rfl (fun K hK => ?_)
    refine S.g Tryd.func20 #[.slice A6 p.lst.length c6] rfl rfl ?_; (with_reducible refine (Pr.glush_set_list.calls k A6 c6 p.lst L y3 (Kd.F_now (Kd.V_at (Kd.V_below H65.out HX.out)).2.2) (Kd.V_at H65.out).2.1 (HT.out.below (below_step HB5.out HX.out)) HL.out).mono ?_); rintro e y4 ⟨v11, rfl, hv11, hb⟩; obtain ⟨A11, c11, rfl⟩ := Kd.R_slice hv11; refine ⟨_, rfl, ?_⟩
    have HV11 := Lib.hid (Kd.R_lower hv11 HX.out.size); clear hv11
    replace HV8 := Lib.hid (Kd.R_below HV8.out hb); replace HV13 := Lib.hid (Kd.N_below HV13.out hb); replace HG10 := Lib.hid (blk_below HG10.out hb)
    replace HX := Lib.hid (below_step HX.out hb)
    refine hK.out _ _ ⟨cell_below hHeld.1 hb, cell_below hHeld.2.1 hb, cell_below hHeld.2.2.1 hb, cell_below hHeld.2.2.2 hb⟩ (fun hHeld => ?_); clear hK K hb; refine S.w 49 ?_
    refine S.p 17 14 52 65535 HT_.out rfl rfl ?_
    exact norm_ (by simp only [putAll, Act.put, List.setIfInBounds_toArray, List.set_cons_zero, List.set_cons_succ]) (hCont (A8, c8, A11, c11, A13, c13, g10) _ ⟨HX.out, HGE.out, HG10.out, HV8.out, HV11.out, HV13.out⟩)
  ·skip
   refine box_step ?hg (N := 10) ?hd (cs := #[.slice none 0 0, .bool false, .slice none 0 0, .slice none 0 0, .slice none 0 0]) (t := 33) ?hr ?_; (case hd => rfl); (case hg => rfl); (case hr => first | (go_simp; done) | (go_simp; rfl)); intro g10 hg y1 hbox hb
   have HGE := Lib.hid (Nat.le_trans HX.out.size (Nat.le_of_eq hg.symm)); have HG10 := Lib.hid hbox; clear hg hbox
   replace HX := Lib.hid (below_step HX.out hb)
   refine hK.out _ _ ⟨cell_below hHeld.1 hb, cell_below hHeld.2.1 hb, cell_below hHeld.2.2.1 hb, cell_below hHeld.2.2.2 hb⟩ (fun hHeld => ?_); clear hK K hb; refine S.w 10 ?_
   refine two_ (i := 8) (j := 13) (Ni := some 46) (Nj := some 51) (S.um 17 38911) (S.um 17 46847) rfl rfl rfl rfl (two_of HT_.out (by kernel_rfl)) (by decide) (by decide) (fun K hK => ?_) (fun K hK => ?_)
   ·skip
    refine S.g Tryd.func20 #[.slice A5 p.fst.length c5] rfl rfl ?_; (with_reducible refine (Pr.glush_set_list.calls k A5 c5 p.fst F y1 (Kd.F_now (Kd.V_at (Kd.V_below H55.out HX.out)).2.2) (Kd.V_at H55.out).2.1 (HT.out.below (below_step HB5.out HX.out)) HF.out).mono ?_); rintro e y2 ⟨v8, rfl, hv8, hb⟩; obtain ⟨A8, c8, rfl⟩ := Kd.R_slice hv8; refine ⟨_, rfl, ?_⟩
    have HV8 := Lib.hid (Kd.R_lower hv8 HX.out.size); clear hv8
    replace HG10 := Lib.hid (blk_below HG10.out hb)
    replace HX := Lib.hid (below_step HX.out hb)
    refine hK.out _ _ ⟨cell_below hHeld.1 hb, cell_below hHeld.2.1 hb, cell_below hHeld.2.2.1 hb, cell_below hHeld.2.2.2 hb⟩ (fun hHeld => ?_); clear hK K hb; refine S.w 46 ?_
    refine two_ (i := 11) (j := 13) (Ni := some 49) (Nj := some 51) (S.um 17 40959) (S.um 17 47103) rfl rfl rfl rfl (two_of HT_.out (by kernel_rfl)) (by decide) (by decide) (fun K hK => ?_) (fun K hK => ?_)
    ·skip
     refine S.g Tryd.func20 #[.slice A6 p.lst.length c6] rfl rfl ?_; (with_reducible refine (Pr.glush_set_list.calls k A6 c6 p.lst L y2 (Kd.F_now (Kd.V_at (Kd.V_below H65.out HX.out)).2.2) (Kd.V_at H65.out).2.1 (HT.out.below (below_step HB5.out HX.out)) HL.out).mono ?_); rintro e y3 ⟨v11, rfl, hv11, hb⟩; obtain ⟨A11, c11, rfl⟩ := Kd.R_slice hv11; refine ⟨_, rfl, ?_⟩
     have HV11 := Lib.hid (Kd.R_lower hv11 HX.out.size); clear hv11
     replace HV8 := Lib.hid (Kd.R_below HV8.out hb); replace HG10 := Lib.hid (blk_below HG10.out hb)
     replace HX := Lib.hid (below_step HX.out hb)
     refine hK.out _ _ ⟨cell_below hHeld.1 hb, cell_below hHeld.2.1 hb, cell_below hHeld.2.2.1 hb, cell_below hHeld.2.2.2 hb⟩ (fun hHeld => ?_); clear hK K hb; refine S.w 49 ?_
     refine S.o 17 13 51 49151 HT_.out rfl rfl (fun K hK => ?_)
     refine Kd.N_make_step (Kd.slice 3 (Kd.int .i64)) (w0 := y3) (W := y3) y3.heap.size 25 (by rfl) (N' := 51) rfl 31 (.tmp 50) (.tmp 50) rfl n (by rfl) (by rfl) Tryd.underlying31 (.slice none 0 0) 24 (by kernel_rfl) rfl (by decide) (by decide) [] (ok := fun k => y3.heap.size ≤ k) (okp := fun k => y3.heap.size ≤ k) (Kd.FK_slice_mk (Nat.le_refl _) (Kd.V_at (V_nil (e := 3) (b := 0))).2.2) (fun _ h => h) (Nat.le_refl _) HN0.out (by have := HN1.out; omega) (Below.refl _ _) (Nat.le_refl _) ?_
     intro v13 y4 hv13 hb _ _
     obtain ⟨A13, c13, rfl⟩ : ∃ A c, v13 = .slice A n.toNat c := by obtain ⟨A, c, h⟩ := Kd.N_slice hv13; exact ⟨A, c, by rw [h, List.length_replicate]⟩
     have HV13 := Lib.hid (Kd.N_lower (Kd.N_mono hv13 (ok' := fun k => w5.heap.size ≤ k ∧ k ≠ g10) (fun k h => ⟨Nat.le_trans HX.out.size h, fun e => Nat.lt_irrefl _ (Nat.lt_of_lt_of_le (e ▸ blk_lt HG10.out) h)⟩)) HX.out.size); clear hv13
     replace HV8 := Lib.hid (Kd.R_below HV8.out hb); replace HV11 := Lib.hid (Kd.R_below HV11.out hb); replace HG10 := Lib.hid (blk_below HG10.out hb)
     replace HX := Lib.hid (below_step HX.out hb)
     refine hK.out _ _ ⟨cell_below hHeld.1 hb, cell_below hHeld.2.1 hb, cell_below hHeld.2.2.1 hb, cell_below hHeld.2.2.2 hb⟩ (fun hHeld => ?_); clear hK K hb; refine S.w 51 ?_
     refine S.p 17 14 52 65535 HT_.out rfl rfl ?_
     exact norm_ (by simp only [putAll, Act.put, List.setIfInBounds_toArray, List.set_cons_zero, List.set_cons_succ]) (hCont (A8, c8, A11, c11, A13, c13, g10) _ ⟨HX.out, HGE.out, HG10.out, HV8.out, HV11.out, HV13.out⟩)
    ·skip
     refine Kd.N_make_step (Kd.slice 3 (Kd.int .i64)) (w0 := y2) (W := y2) y2.heap.size 25 (by rfl) (N' := 51) rfl 31 (.tmp 50) (.tmp 50) rfl n (by rfl) (by rfl) Tryd.underlying31 (.slice none 0 0) 24 (by kernel_rfl) rfl (by decide) (by decide) [] (ok := fun k => y2.heap.size ≤ k) (okp := fun k => y2.heap.size ≤ k) (Kd.FK_slice_mk (Nat.le_refl _) (Kd.V_at (V_nil (e := 3) (b := 0))).2.2) (fun _ h => h) (Nat.le_refl _) HN0.out (by have := HN1.out; omega) (Below.refl _ _) (Nat.le_refl _) ?_
     intro v13 y3 hv13 hb _ _
     obtain ⟨A13, c13, rfl⟩ : ∃ A c, v13 = .slice A n.toNat c := by obtain ⟨A, c, h⟩ := Kd.N_slice hv13; exact ⟨A, c, by rw [h, List.length_replicate]⟩
     have HV13 := Lib.hid (Kd.N_lower (Kd.N_mono hv13 (ok' := fun k => w5.heap.size ≤ k ∧ k ≠ g10) (fun k h => ⟨Nat.le_trans HX.out.size h, fun e => Nat.lt_irrefl _ (Nat.lt_of_lt_of_le (e ▸ blk_lt HG10.out) h)⟩)) HX.out.size); clear hv13
     replace HV8 := Lib.hid (Kd.R_below HV8.out hb); replace HG10 := Lib.hid (blk_below HG10.out hb)
     replace HX := Lib.hid (below_step HX.out hb)
     refine hK.out _ _ ⟨cell_below hHeld.1 hb, cell_below hHeld.2.1 hb, cell_below hHeld.2.2.1 hb, cell_below hHeld.2.2.2 hb⟩ (fun hHeld => ?_); clear hK K hb; refine S.w 51 ?_
     refine S.o 17 11 49 49151 HT_.out rfl rfl (fun K hK => ?_)
     refine S.g Tryd.func20 #[.slice A6 p.lst.length c6] rfl rfl ?_; (with_reducible refine (Pr.glush_set_list.calls k A6 c6 p.lst L y3 (Kd.F_now (Kd.V_at (Kd.V_below H65.out HX.out)).2.2) (Kd.V_at H65.out).2.1 (HT.out.below (below_step HB5.out HX.out)) HL.out).mono ?_); rintro e y4 ⟨v11, rfl, hv11, hb⟩; obtain ⟨A11, c11, rfl⟩ := Kd.R_slice hv11; refine ⟨_, rfl, ?_⟩
     have HV11 := Lib.hid (Kd.R_lower hv11 HX.out.size); clear hv11
     replace HV8 := Lib.hid (Kd.R_below HV8.out hb); replace HV13 := Lib.hid (Kd.N_below HV13.out hb); replace HG10 := Lib.hid (blk_below HG10.out hb)
     replace HX := Lib.hid (below_step HX.out hb)
     refine hK.out _ _ ⟨cell_below hHeld.1 hb, cell_below hHeld.2.1 hb, cell_below hHeld.2.2.1 hb, cell_below hHeld.2.2.2 hb⟩ (fun hHeld => ?_); clear hK K hb; refine S.w 49 ?_
     refine S.p 17 14 52 65535 HT_.out rfl rfl ?_
     exact norm_ (by simp only [putAll, Act.put, List.setIfInBounds_toArray, List.set_cons_zero, List.set_cons_succ]) (hCont (A8, c8, A11, c11, A13, c13, g10) _ ⟨HX.out, HGE.out, HG10.out, HV8.out, HV11.out, HV13.out⟩)
   ·skip
    refine Kd.N_make_step (Kd.slice 3 (Kd.int .i64)) (w0 := y1) (W := y1) y1.heap.size 25 (by rfl) (N' := 51) rfl 31 (.tmp 50) (.tmp 50) rfl n (by rfl) (by rfl) Tryd.underlying31 (.slice none 0 0) 24 (by kernel_rfl) rfl (by decide) (by decide) [] (ok := fun k => y1.heap.size ≤ k) (okp := fun k => y1.heap.size ≤ k) (Kd.FK_slice_mk (Nat.le_refl _) (Kd.V_at (V_nil (e := 3) (b := 0))).2.2) (fun _ h => h) (Nat.le_refl _) HN0.out (by have := HN1.out; omega) (Below.refl _ _) (Nat.le_refl _) ?_
    intro v13 y2 hv13 hb _ _
    obtain ⟨A13, c13, rfl⟩ : ∃ A c, v13 = .slice A n.toNat c := by obtain ⟨A, c, h⟩ := Kd.N_slice hv13; exact ⟨A, c, by rw [h, List.length_replicate]⟩
    have HV13 := Lib.hid (Kd.N_lower (Kd.N_mono hv13 (ok' := fun k => w5.heap.size ≤ k ∧ k ≠ g10) (fun k h => ⟨Nat.le_trans HX.out.size h, fun e => Nat.lt_irrefl _ (Nat.lt_of_lt_of_le (e ▸ blk_lt HG10.out) h)⟩)) HX.out.size); clear hv13
    replace HG10 := Lib.hid (blk_below HG10.out hb)
    replace HX := Lib.hid (below_step HX.out hb)
    refine hK.out _ _ ⟨cell_below hHeld.1 hb, cell_below hHeld.2.1 hb, cell_below hHeld.2.2.1 hb, cell_below hHeld.2.2.2 hb⟩ (fun hHeld => ?_); clear hK K hb; refine S.w 51 ?_
    refine S.o 17 8 46 47103 HT_.out rfl rfl (fun K hK => ?_)
    refine S.g Tryd.func20 #[.slice A5 p.fst.length c5] rfl rfl ?_; (with_reducible refine (Pr.glush_set_list.calls k A5 c5 p.fst F y2 (Kd.F_now (Kd.V_at (Kd.V_below H55.out HX.out)).2.2) (Kd.V_at H55.out).2.1 (HT.out.below (below_step HB5.out HX.out)) HF.out).mono ?_); rintro e y3 ⟨v8, rfl, hv8, hb⟩; obtain ⟨A8, c8, rfl⟩ := Kd.R_slice hv8; refine ⟨_, rfl, ?_⟩
    have HV8 := Lib.hid (Kd.R_lower hv8 HX.out.size); clear hv8
    replace HV13 := Lib.hid (Kd.N_below HV13.out hb); replace HG10 := Lib.hid (blk_below HG10.out hb)
    replace HX := Lib.hid (below_step HX.out hb)
    refine hK.out _ _ ⟨cell_below hHeld.1 hb, cell_below hHeld.2.1 hb, cell_below hHeld.2.2.1 hb, cell_below hHeld.2.2.2 hb⟩ (fun hHeld => ?_); clear hK K hb; refine S.w 46 ?_
    refine S.o 17 11 49 49151 HT_.out rfl rfl (fun K hK => ?_)
    refine S.g Tryd.func20 #[.slice A6 p.lst.length c6] rfl rfl ?_; (with_reducible refine (Pr.glush_set_list.calls k A6 c6 p.lst L y3 (Kd.F_now (Kd.V_at (Kd.V_below H65.out HX.out)).2.2) (Kd.V_at H65.out).2.1 (HT.out.below (below_step HB5.out HX.out)) HL.out).mono ?_); rintro e y4 ⟨v11, rfl, hv11, hb⟩; obtain ⟨A11, c11, rfl⟩ := Kd.R_slice hv11; refine ⟨_, rfl, ?_⟩
    have HV11 := Lib.hid (Kd.R_lower hv11 HX.out.size); clear hv11
    replace HV8 := Lib.hid (Kd.R_below HV8.out hb); replace HV13 := Lib.hid (Kd.N_below HV13.out hb); replace HG10 := Lib.hid (blk_below HG10.out hb)
    replace HX := Lib.hid (below_step HX.out hb)
    refine hK.out _ _ ⟨cell_below hHeld.1 hb, cell_below hHeld.2.1 hb, cell_below hHeld.2.2.1 hb, cell_below hHeld.2.2.2 hb⟩ (fun hHeld => ?_); clear hK K hb; refine S.w 49 ?_
    refine S.p 17 14 52 65535 HT_.out rfl rfl ?_
    exact norm_ (by simp only [putAll, Act.put, List.setIfInBounds_toArray, List.set_cons_zero, List.set_cons_succ]) (hCont (A8, c8, A11, c11, A13, c13, g10) _ ⟨HX.out, HGE.out, HG10.out, HV8.out, HV11.out, HV13.out⟩)
 rintro ⟨A8, c8, A11, c11, A13, c13, g10⟩ w6 ⟨hx_, hge_, hg10_, h8_, h11_, h13_⟩; dsimp only at hx_ hge_ hg10_ h8_ h11_ h13_
 have HX := Lib.hid hx_; have HGE := Lib.hid hge_; have HG10 := Lib.hid hg10_; have HV8 := Lib.hid h8_; have HV11 := Lib.hid h11_; have HV13 := Lib.hid h13_; clear hx_ hge_ hg10_ h8_ h11_ h13_
 refine norm_ (a' := ?_) ?_ ?_; rotate_left
 ·simp only [putAll, Act.put, List.setIfInBounds_toArray, List.set_cons_zero, List.set_cons_succ]; rfl
 refine last_ (i := 16) (N := none) (S.um 17 131071) rfl rfl (one_of HT_.out (by kernel_rfl)) (by decide) (fun K hK => ?_)
 obtain ⟨z0, z1, z2, z3, z4, f0, f1, f2, f3, f4⟩ := cells5 HG10.out
 refine skip_ (w1 := ?_) (by rfl) rfl ?_ ?_; rotate_left
 ·go_simp; rfl
 clear z0 z1 z2 z3 z4 f0 f1 f2 f3 f4 hHeld
 refine hK.out _ _ ?_; clear hK K
 refine done_ (done_of HT_.out (by kernel_rfl)) ?_; clear HT_ HW_
 have hs := st5_self (w := w6) (g := g10) (.slice As p.syms.length cs) (.bool p.null) (.slice A8 F.length c8) (.slice A11 L.length c11) (.slice A13 n.toNat c13)
 have hk10 := st5_blk HG10.out (.slice As p.syms.length cs) (.bool p.null) (.slice A8 F.length c8) (.slice A11 L.length c11) (.slice A13 n.toNat c13)
 have hb7 := st5_below HX.out HGE.out (.slice As p.syms.length cs) (.bool p.null) (.slice A8 F.length c8) (.slice A11 L.length c11) (.slice A13 n.toNat c13)
 have r8 := Kd.R_mono (Kd.R_kept (Kd.R_types HV8.out HG10.out (by decide)) hs (fun q h1 h2 => h1.2 h2)) (ok' := fun _ => True) (fun _ _ => trivial); have r11 := Kd.R_mono (Kd.R_kept (Kd.R_types HV11.out HG10.out (by decide)) hs (fun q h1 h2 => h1.2 h2)) (ok' := fun _ => True) (fun _ _ => trivial); have n13 := Kd.N_kept HV13.out hs (fun q h1 h2 => h1.2 h2)
 generalize hw7 : st5 w6 g10 (.slice As p.syms.length cs) (.bool p.null) (.slice A8 F.length c8) (.slice A11 L.length c11) (.slice A13 n.toNat c13) = w7 at hk10 hb7 r8 r11 n13
 have hw7' : (((((w6.setCell ⟨g10, 0, none⟩ (.slice As p.syms.length cs)).setCell ⟨g10, 1, none⟩ (.bool p.null)).setCell ⟨g10, 2, none⟩ (.slice A8 F.length c8)).setCell ⟨g10, 3, none⟩ (.slice A11 L.length c11)).setCell ⟨g10, 4, none⟩ (.slice A13 n.toNat c13)) = w7 := hw7
 rw [hw7']; clear hw7 hw7' hs HX HG10 HV8 HV11 HV13
 have HK10 := Lib.hid hk10; have HB7 := Lib.hid hb7; have HV8 := Lib.hid r8; have HV11 := Lib.hid r11; have HV13 := Lib.hid n13
 clear hk10 hb7 r8 r11 n13
 have b2 : w7.cell? ⟨g, 2, none⟩ = some (.slice Ar p.rows.length cr) := (blk_cell (blk_below HKB5.out HB7.out) 2).trans rfl
 go_wp2_with (fail)
 clear b2
 have HNN : Hid (n.toNat ≤ 512) := Lib.hid (by have := HN1.out; omega)
 have HLN : Hid ((List.replicate n.toNat ([] : List Int)).length = n.toNat) := Lib.hid List.length_replicate
 generalize List.replicate n.toNat ([] : List Int) = acc0 at HFO HV13 HLN
 generalize n.toNat = nn at HV13 HLN HK10 HNN ⊢
 go_loopg [58] p.rows.length (fun kq v58 w' => ∃ (i : Int) (acc : List (List Int)), v58 = .int .i64 i ∧ Hid (0 ≤ i ∧ i ≤ p.rows.length) ∧ Hid (kq = p.rows.length - i.toNat) ∧ Hid (followF k (p.rows.drop i.toNat) i.toNat acc = some Fo) ∧ Hid (acc.length = nn) ∧ Hid (Below w5.heap.size w5 w') ∧ Hid (w'.heap[g10]? = some (.cells #[.slice As p.syms.length cs, .bool p.null, .slice A8 F.length c8, .slice A11 L.length c11, .slice A13 nn c13] 33 (0, 0))) ∧ Hid (Kd.R (Kd.int .i64) 3 w' w5.heap.size (fun _ => True) (.slice A8 F.length c8) F) ∧ Hid (Kd.R (Kd.int .i64) 3 w' w5.heap.size (fun _ => True) (.slice A11 L.length c11) L) ∧ Hid (Kd.N (Kd.slice 3 (Kd.int .i64)) 25 w' w5.heap.size (fun k => w5.heap.size ≤ k ∧ k ≠ g10) (.slice A13 nn c13) acc))
 case atStart => exact ⟨0, acc0, rfl, Lib.hid ⟨Int.le_refl _, by omega⟩, Lib.hid rfl, HFO, HLN, HB7, HK10, HV8, HV11, HV13⟩
 case round =>
  obtain ⟨i, acc, rfl, HIX, HIQ, HIM, HAL, HBi, HKi, HFi, HLi, HNi⟩ := hrel
  by_cases hlt : i < p.rows.length
  ·have hm := HIM.out
   rw [row_drop p.rows i HIX.out.1 hlt] at hm
   unfold followF at hm
   obtain ⟨hil, hm⟩ := some_if hm
   obtain ⟨x, hx, hm⟩ := Option.bind_eq_some_iff.1 hm
   obtain ⟨gr, cr', er, _, _, _⟩ := Kd.R_form (Kd.S_R HSR5.out) (by have := HIX.out.1; omega)
   injection er with er1 _ er2
   subst er1
   obtain ⟨ad, cc, ead, hcl, ⟨A7, c7, rfl, hl7, hC7⟩, hcc⟩ := Kd.C_get (Kd.S_reads' HSR5.out).2.2 [] i HIX.out.1 hlt
   cases ead
   have q0 := hcc 0 _ rfl
   simp only [add_plain] at q0
   have q1 : wr.cell? ⟨gr, i.toNat, none⟩ = some (.slice A7 (p.rows.getD i.toNat []).length c7) := cell_below (by
    have e0 : 0 + (i.toNat * (Kd.slice 77 KU).sz + 0) = i.toNat := by show 0 + (i.toNat * 1 + 0) = i.toNat; omega
    first | (rw [e0] at q0; exact q0) | (have e1 : i.toNat * (Kd.slice 77 KU).sz + 0 = i.toNat := (by show i.toNat * 1 + 0 = i.toNat; omega); rw [e1] at q0; exact q0)) HBi.out
   obtain ⟨g13, cp13, e13, _, _, _, hc13⟩ := Kd.N_form HNi.out (Nat.lt_of_le_of_lt (Nat.zero_le _) hil)
   injection e13 with e131 e132 e133
   subst e131
   have HC7 := Lib.hid (Kd.C_below hC7 HBi.out)
   generalize p.rows.getD i.toNat [] = s at q1 hl7 HC7 hx hm
   have HX2 := Lib.hid hx; have HRE := Lib.hid hm; have HLT := Lib.hid hlt; have HIL := Lib.hid hil; have HL7 := Lib.hid hl7; have HC13 := Lib.hid hc13
   have t4 : wr.cell? ⟨g10, 4, none⟩ = some (.slice (some ⟨g13, 0, none⟩) nn c13) := (blk_cell HKi.out 4).trans rfl
   have b2 : decide (i < (p.rows.length : Int)) = true := decide_eq_true hlt
   have b3 : (0 ≤ i) = True := eq_true HIX.out.1
   have b4 : (i < (p.rows.length : Int)) = True := eq_true hlt
   have b5 : (i < (nn : Int)) = True := eq_true (by have := HAL.out; have := HIX.out.1; omega)
   clear hm hx hlt hil hl7 hC7 hcc hcl q0 hc13 er2 e132 e133 HIM
   go_wp2_with (fail)
   clear q1 b2 b4
   refine start_ (n := 7) (S := fun w' => w'.cell? ⟨g10, 4, none⟩ = some (.slice (some ⟨g13, 0, none⟩) nn c13)) (ds := [6]) (S.um 7 0) (by kernel_rfl) rfl rfl t4 (fun hHeld => ?_); refine with_tabW RB14.tab RB14.bits (fun HT_ HW_ => ?_)
   clear t4
   refine S.p 7 0 63 1 HT_.out rfl rfl ?_
   refine S.p 7 2 65 5 HT_.out rfl rfl ?_
   refine S.p 7 3 66 13 HT_.out rfl rfl ?_
   refine S.t 7 1 64 15 HT_.out HW_.out rfl rfl hHeld ?_
   refine S.o 7 4 67 31 HT_.out rfl rfl (fun K hK => ?_)
   refine S.g Tryd.func20 #[.slice A7 s.length c7] rfl rfl ?_; (with_reducible refine (Pr.glush_set_list.calls k A7 c7 s x wr.drew (Kd.C_below HC7.out (below_drew1 (Below.refl _ _))) HL7.out (HT.out.below (below_drew1 (below_step HB5.out HBi.out))) HX2.out).mono ?_); rintro e wz ⟨v67, rfl, hv67, hb⟩; obtain ⟨A67, c67, rfl⟩ := Kd.R_slice hv67; refine ⟨_, rfl, ?_⟩
   have hbw : Below wr.heap.size wr wz := ⟨hb.os, hb.tape, hb.output, hb.size, hb.block⟩
   have HBz := Lib.hid (below_step HBi.out hbw); have HKz := Lib.hid (blk_below HKi.out hbw); have HFz := Lib.hid (Kd.R_below HFi.out hbw); have HLz := Lib.hid (Kd.R_below HLi.out hbw); have HNz := Lib.hid (Kd.N_below HNi.out hbw); have HV67 := Lib.hid hv67
   have HG10L := Lib.hid (blk_lt HKi.out); have HLT13 := Lib.hid (Kd.N_lt HNi.out g13 rfl); have HC13z := Lib.hid (blk_below HC13.out hbw); have HOK13 := Lib.hid (HNi.out.1 g13 rfl)
   refine hK.out _ _ (cell_below hHeld hb) (fun hHeld => ?_); clear hK K hb hbw hv67 HBi HKi HFi HLi HNi; refine S.w 67 ?_
   refine S.p 7 5 68 63 HT_.out rfl rfl ?_
   obtain ⟨cE, hcl, _, hcE, hfr⟩ := Kd.N_elem HNz.out [] i HIX.out.1 (by have := HAL.out; have := HIL.out; have := HIX.out.1; omega)
   obtain ⟨cE0, rfl⟩ := List.length_eq_one_iff.1 (hcl.trans (show (Kd.slice 3 (Kd.int .i64)).sz = 1 from rfl))
   have ez : i.toNat * (Kd.slice 3 (Kd.int .i64)).sz + 0 = i.toNat := by show i.toNat * 1 + 0 = i.toNat; omega
   have y0 := hcE 0 _ rfl; have y1 := hfr 0
   rw [ez] at y0 y1
   clear hcl hcE hfr ez
   refine last_ (i := 6) (N := none) (S.um 7 127) rfl rfl (one_of HT_.out (by kernel_rfl)) (by decide) (fun K hK => ?_)
   refine skip_ (w1 := ?_) (by rfl) rfl ?_ ?_; rotate_left
   ·go_simp; rfl
   refine hK.out _ _ ?_; clear hK K hHeld y0 y1
   refine done_ (done_of HT_.out (by kernel_rfl)) ?_; clear HT_ HW_
   obtain ⟨hn2, _⟩ := N_put1 (d := (Kd.slice 3 (Kd.int .i64))) rfl HNz.out i HIX.out.1 (by have := HAL.out; have := HIL.out; have := HIX.out.1; omega) (x' := x) (u := .slice A67 x.length c67) (okp := fun q => wr.heap.size ≤ q) (Kd.FK_slice_mk (Kd.V_at (V_of_R (b' := 0) HV67.out)).2.1 (Kd.V_at (V_of_R (b' := 0) (Kd.R_mono (Kd.R_bound HV67.out) (ok' := fun q => wr.heap.size ≤ q) (fun q h => h.2.1)))).2.2) (fun q h => ⟨⟨Nat.le_trans HOK13.out.1 (Nat.le_trans (Nat.le_of_lt HLT13.out) h), fun e => Nat.lt_irrefl _ (Nat.lt_of_lt_of_le (e ▸ HG10L.out) h)⟩, fun e => Nat.lt_irrefl _ (Nat.lt_of_lt_of_le (e ▸ HLT13.out) h)⟩)
   have hs : Kept wz (wz.setCell ⟨g13, i.toNat, none⟩ (.slice A67 x.length c67)) (fun q => q = g13) := (Kept.refl wz (fun q => q = g13)).setCell (p := ⟨g13, i.toNat, none⟩) (.inl rfl) (.slice A67 x.length c67)
   have hne : g10 ≠ g13 := blk_ne HKz.out HC13z.out (by decide)
   have hk9 := blk_far HKz.out (p := ⟨g13, i.toNat, none⟩) hne (.slice A67 x.length c67)
   have hb9 := HBz.out.setCell (p := ⟨g13, i.toNat, none⟩) HOK13.out.1 (.slice A67 x.length c67)
   have r9 := Kd.R_mono (Kd.R_kept (Kd.R_types HFz.out HC13z.out (by decide)) hs (fun q h1 h2 => h1.2 h2)) (ok' := fun _ => True) (fun _ _ => trivial); have l9 := Kd.R_mono (Kd.R_kept (Kd.R_types HLz.out HC13z.out (by decide)) hs (fun q h1 h2 => h1.2 h2)) (ok' := fun _ => True) (fun _ _ => trivial)
   generalize wz.setCell ⟨g13, i.toNat, none⟩ (.slice A67 x.length c67) = wt at hn2 hk9 hb9 r9 l9 ⊢
   have HN9 := Lib.hid hn2; have HK9 := Lib.hid hk9; have HB9 := Lib.hid hb9; have HR9 := Lib.hid r9; have HL9 := Lib.hid l9
   clear hn2 hk9 hb9 r9 l9 hne HKz HBz HFz HLz HNz HV67
   go_wp2_with (fail)
   have hw : wrap64 (i + 1) = i + 1 := by have h1 := HLT.out; have h2 := (Kd.S_reads' HSR5.out).2.2.2.1; have h3 := HIX.out.1; unfold wrap64; omega
   go_roundg (p.rows.length - (i + 1).toNat)
   case measure => have h1 := HLT.out; have h2 := HIQ.out; have h3 := HIX.out.1; omega
   case rel => exact ⟨i + 1, acc.set i.toNat x, by first | rfl | rw [hw], Lib.hid ⟨by have := HIX.out.1; omega, by have := HLT.out; omega⟩, Lib.hid rfl, Lib.hid (by have h1 := HRE.out; have h3 := HIX.out.1; rw [show (i + 1).toNat = i.toNat + 1 by omega] at h1 ⊢; exact h1), Lib.hid (by rw [List.length_set]; exact HAL.out), HB9, HK9, HR9, HL9, HN9⟩
  ·have hx : i = p.rows.length := by have := HIX.out.2; omega
   subst hx
   have hm := HIM.out
   rw [Int.toNat_natCast, List.drop_of_length_le (Nat.le_refl _)] at hm
   unfold followF at hm
   obtain rfl := Option.some.inj hm
   clear hm HIM
   have b2 : decide ((p.rows.length : Int) < (p.rows.length : Int)) = false := decide_eq_false hlt
   have HKZ := Lib.hid (blk_below KZ5.out HBi.out)
   obtain ⟨z0, z1, z2, z3, z4, f0, f1, f2, f3, f4⟩ := cells5 HKZ.out
   obtain ⟨q0, q1, q2, q3, q4, _⟩ := cells5 HKi.out
   go_wp2_with (fail)
   refine bodyPost_ret (results_ct rfl _ _ (w.heap.size + 1) 33 #[.slice As p.syms.length cs, .bool p.null, .slice A8 F.length c8, .slice A11 L.length c11, .slice A13 nn c13] (0, 0) _ rfl (st5_blk HKZ.out _ _ _ _ _) Tryd.underlying33 rfl (by kernel_rfl)) rfl ?_
   have hs := st5_self (w := wr) (g := w.heap.size + 1) (.slice As p.syms.length cs) (.bool p.null) (.slice A8 F.length c8) (.slice A11 L.length c11) (.slice A13 nn c13)
   have hz5 := blk_lt KZ5.out
   have hw5 := HB5.out.size
   have vF := V_of_R (b' := w.heap.size) (Kd.R_mono (Kd.R_bound (Kd.R_kept (Kd.R_types HFi.out HKZ.out (by decide)) hs (fun q h1 h2 => h1.2 h2))) (ok' := fun q => w.heap.size ≤ q) (fun q h => Nat.le_trans hw5 h.2.1))
   have vL := V_of_R (b' := w.heap.size) (Kd.R_mono (Kd.R_bound (Kd.R_kept (Kd.R_types HLi.out HKZ.out (by decide)) hs (fun q h1 h2 => h1.2 h2))) (ok' := fun q => w.heap.size ≤ q) (fun q h => Nat.le_trans hw5 h.2.1))
   have vS := V_of_R (b' := w.heap.size) (Kd.R_mono (Kd.R_bound (Kd.R_kept (Kd.R_types (Kd.R_below HRS5.out HBi.out) HKZ.out (by decide)) hs (fun q h1 h2 => h1.2 h2))) (ok' := fun q => w.heap.size ≤ q) (fun q h => h.2.1))
   have vN := Kd.N_V (base' := w.heap.size) (Kd.N_mono (Kd.N_kept HNi.out hs (fun q h1 h2 => Nat.lt_irrefl _ (Nat.lt_of_lt_of_le (h2 ▸ hz5) h1.1))) (ok' := fun q => w.heap.size ≤ q) (fun q h => Nat.le_trans hw5 h.1))
   exact ⟨_, _, _, _, rfl, vS, vF, vL, vN, st5_below (below_step HB5.out HBi.out) (Nat.le_add_right _ 1) _ _ _ _ _⟩
end Go.Proofs.YthocjdlcopmhiaaDoor.G
namespace Go.Proofs.YthocjdlcopmhiaaDoor.G
open Go.RowKit Go.Proofs.YthocjdlcopmhiaaDoorW.PrintWords Go.Proofs.YthocjdlcopmhiaaDoorW.PrintLast Go.Proofs.YthocjdlcopmhiaaDoorW.PrintMore
attribute [local go_sem] max2_int min2_int max_two min_two max_three min_three max_four min_four
set_option linter.unusedVariables false
set_option linter.unusedSimpArgs false
end Go.Proofs.YthocjdlcopmhiaaDoor.G
namespace Go.Proofs.YthocjdlcopmhiaaDoor.G
open Go.RowKit Go.Proofs.YthocjdlcopmhiaaDoorW.PrintWords Go.Proofs.YthocjdlcopmhiaaDoorW.PrintLast Go.Proofs.YthocjdlcopmhiaaDoorW.PrintMore
attribute [local go_sem] max2_int min2_int max_two min_two max_three min_three max_four min_four
set_option linter.unusedVariables false
set_option linter.unusedSimpArgs false
open GP (Cat Eps Pow)
set_option maxHeartbeats 8000000 in
set_option maxRecDepth 100000 in
theorem word_calls (k : Nat) (e : Pr.S24) (A : Option Addr) (c : Nat) (ws : List Int) (Aw : Option Addr) (cw : Nat) (w : World) (hC : Kd.V Pr.k24 24 w 0 (fun k => k < w.heap.size) (.slice A e.f4.length c) e.f4) (hw : Kd.V (Kd.int .i64) 3 w 0 (fun k => k < w.heap.size) (.slice Aw ws.length cw) ws) (hn : ws.length < 1048576) (hck : glush_Check.f k e.f0 e.f1 e.f2 e.f3 e.f4 = some 0) :
  Calls Tryd.prog 10 #[EV e A c, .slice Aw ws.length cw] w fun en w' => (∃ b : Bool, en = .returned (.bool b) ∧ (b = true ↔ LangE e ws)) ∧ Below w.heap.size w w' := by
 have hu63 := Tryd.underlying63; have hu24 := Tryd.underlying24; have hu60 := Tryd.underlying60
 obtain ⟨hwf, hsz⟩ := check_res hck
 obtain ⟨k2, kids, hnum, hinr, hlab⟩ := num_ok _ e (Nat.le_refl _) 0 (by omega) (by omega)
 obtain ⟨Lg, _, hLab⟩ := hlab (fun _ _ => True)
 have HC := Lib.hid hC; have HW := Lib.hid hw; have HN := Lib.hid hn; have HCK := Lib.hid hck; have HWF := Lib.hid hwf; have HNUM := Lib.hid hnum; have HLAB := Lib.hid hLab
 clear hC hw hn hck hwf hnum hinr hlab hLab hsz
 go_enter Tryd.func10, Tryd.ntmps10
 go_wp2_with (fail)
 have hby := below_alloc (Below.refl w.heap.size w) (.cells #[.int .i64 e.f0, .int .i64 e.f1, .int .i64 e.f2, .int .i64 e.f3, .slice A e.f4.length c] 24)
 have KE : (w.alloc (.cells #[.int .i64 e.f0, .int .i64 e.f1, .int .i64 e.f2, .int .i64 e.f3, .slice A e.f4.length c] 24)).heap[w.heap.size]? = some (.cells #[.int .i64 e.f0, .int .i64 e.f1, .int .i64 e.f2, .int .i64 e.f3, .slice A e.f4.length c] 24 (0, 0)) := blk_new w _
 generalize w.alloc (.cells #[.int .i64 e.f0, .int .i64 e.f1, .int .i64 e.f2, .int .i64 e.f3, .slice A e.f4.length c] 24) = wA at hby KE ⊢
 refine (glush_Check.calls k e.f0 e.f1 e.f2 e.f3 A c e.f4 0 wA (Kd.F_now (Kd.V_at (Kd.V_below HC.out hby)).2.2) (Kd.V_at HC.out).2.1 HCK.out).mono ?_
 rintro e' w1 ⟨rfl, hb1⟩
 have HB1 := Lib.hid (below_step hby hb1); have KE1 := Lib.hid (blk_below KE hb1)
 clear hby hb1 KE
 have hmk : (Instr.makeMap 58 none).run Tryd.prog w1 = .ok (.map (some w1.heap.size)) (w1.alloc (.map #[] 0)) := by rfl
 go_upto_region 4 with (fail)
 clear hmk
 have hb2 := below_alloc (below_alloc (Below.refl w1.heap.size w1) (.map #[] 0)) (.cells #[.slice Aw ws.length cw, .int .i64 0, .map (some w1.heap.size)] 60)
 have KM : ((w1.alloc (.map #[] 0)).alloc (.cells #[.slice Aw ws.length cw, .int .i64 0, .map (some w1.heap.size)] 60)).heap[w1.heap.size]? = some (.map #[] 0) := blk_alloc (blk_new w1 _) _
 have KG : ((w1.alloc (.map #[] 0)).alloc (.cells #[.slice Aw ws.length cw, .int .i64 0, .map (some w1.heap.size)] 60)).heap[w1.heap.size + 1]? = some (.cells #[.slice Aw ws.length cw, .int .i64 0, .map (some w1.heap.size)] 60 (0, 0)) := by
  have := blk_new (w1.alloc (.map #[] 0)) (.cells #[.slice Aw ws.length cw, .int .i64 0, .map (some w1.heap.size)] 60); simpa using this
 generalize (w1.alloc (.map #[] 0)).alloc (.cells #[.slice Aw ws.length cw, .int .i64 0, .map (some w1.heap.size)] 60) = wB at hb2 KM KG ⊢
 have HBB := Lib.hid (below_step HB1.out hb2); have KEB := Lib.hid (blk_below KE1.out hb2); have KMB := Lib.hid KM; have KGB := Lib.hid KG
 have HLT := Lib.hid (blk_lt KE1.out)
 clear hb2 KM KG KE1
 generalize hbmn : w1.heap.size = bm at KMB KGB HLT ⊢
 have HBS := Lib.hid (show w.heap.size ≤ bm by rw [← hbmn]; exact HB1.out.size)
 clear hbmn HB1
 have x0 : wB.cell? ⟨w.heap.size, 0, none⟩ = some (.int .i64 e.f0) := (blk_cell KEB.out 0).trans rfl
 have x1 : wB.cell? ⟨w.heap.size, 1, none⟩ = some (.int .i64 e.f1) := (blk_cell KEB.out 1).trans rfl
 have x2 : wB.cell? ⟨w.heap.size, 2, none⟩ = some (.int .i64 e.f2) := (blk_cell KEB.out 2).trans rfl
 have x3 : wB.cell? ⟨w.heap.size, 3, none⟩ = some (.int .i64 e.f3) := (blk_cell KEB.out 3).trans rfl
 have x4 : wB.cell? ⟨w.heap.size, 4, none⟩ = some (.slice A e.f4.length c) := (blk_cell KEB.out 4).trans rfl
 go_wp2_with (fail)
 clear x0 x1 x2 x3 x4
 refine (number_calls k2 e A c (fun k => k < w.heap.size) 0 kids _ wB (Kd.V_below HC.out HBB.out) HNUM.out).mono ?_
 rintro e' w2 ⟨A6, c6, rfl, hv6, hb2⟩
 have hltB : bm < wB.heap.size := blk_lt KMB.out
 have hok : ∀ k, (k < w.heap.size ∨ wB.heap.size ≤ k) → k ≠ bm := fun k hk => by have := HBS.out; omega
 obtain ⟨A4, hA4⟩ : ∃ q, q = A := ⟨_, rfl⟩
 obtain ⟨c4, hc4⟩ : ∃ q, q = c := ⟨_, rfl⟩
 subst hA4; subst hc4
 have HV4 := Lib.hid (Kd.V_mono (Kd.V_below (Kd.V_below HC.out HBB.out) hb2) (ok' := fun k => k ≠ bm) (fun k hk => hok k (.inl hk)))
 have HV6 := Lib.hid (Kd.V_mono hv6 (ok' := fun k => k ≠ bm) (fun k hk => hok k hk))
 have HB2 := Lib.hid (below_step HBB.out hb2); have KM2 := Lib.hid (blk_below KMB.out hb2); have KG2 := Lib.hid (blk_below KGB.out hb2)
 clear hv6 hok hltB hb2 HBB KMB KGB KEB
 go_wp2_with (fail)
 have hby := below_alloc (Below.refl w2.heap.size w2) (.cells #[.int .i64 e.f0, .int .i64 e.f1, .int .i64 e.f2, .int .i64 e.f3, .slice A4 e.f4.length c4, .int .i64 0, .slice A6 kids.length c6] 63)
 have HV43 := Kd.V_below HV4.out hby; have HV63 := Kd.V_below HV6.out hby
 have HBw := Lib.hid (below_step HB2.out hby); have KM3 := Lib.hid (blk_below KM2.out hby); have KG3 := Lib.hid (blk_below KG2.out hby)
 have HWW := Lib.hid (Kd.V_below HW.out HBw.out)
 generalize w2.alloc (.cells #[.int .i64 e.f0, .int .i64 e.f1, .int .i64 e.f2, .int .i64 e.f3, .slice A4 e.f4.length c4, .int .i64 0, .slice A6 kids.length c6] 63) = w3 at hby HV43 HV63 HBw KM3 KG3 HWW ⊢
 have hfk : Kd.FK KN w3 (fun k => k ≠ bm) ⟨e, 0, kids⟩ (NC ⟨e, 0, kids⟩ A4 c4 A6 c6) := Pr.k63_mkF w3 (fun k => k ≠ bm) ⟨e, 0, kids⟩ (Kd.V_at HV43).2.1 (Kd.V_at HV43).2.2 (Kd.V_at HV63).2.1 (Kd.V_at HV63).2.2
 have henv : Env w3 (bm + 1) bm ws Aw cw := ⟨KG3.out, by omega, Kd.V_mono HWW.out (fun k hk => by have := HBS.out; omega), HN.out⟩
 have hmem : Memo Lg ws bm (fun _ => False) w3 := ⟨#[], 0, KM3.out, fun e he => by simp at he⟩
 have hfrom := all_from Lg w3 (bm + 1) bm ws Aw cw henv HLAB.out HWF.out
 refine calls_of_args (args' := #[.pointer (some ⟨bm + 1, 0, none⟩), NV ⟨e, 0, kids⟩ A4 c4 A6 c6, .int .i64 ((0 : Nat) : Int)]) (by rfl) ((FromOk.call hfrom (fun _ => False) w3 0 A4 c4 A6 c6 (Step.refl bm w3) hmem (fun h => h) (fun k h => h.elim) (Nat.zero_le _) hfk).mono ?_)
 rintro e' w4 ⟨A7, c7, rfl, hv7, _, hs4⟩
 have hb4 : Below w.heap.size w w4 := HBw.out.trans (hs4.b.mono HBS.out)
 have HB4 := Lib.hid hb4
 obtain ⟨ad, rfl, hcl⟩ := Kd.at_bool (Kd.V_reads' hv7).2.2 (ws.length : Int) (by omega) (by rw [rowL_len]; omega)
 have hrd : rdOf false (rowL ws (Lg 0) 0) (ws.length : Int) = dec (To ws (Lg 0) 0 ws.length) := rowP_rd (Nat.le_refl _)
 rw [Int.toNat_natCast] at hcl
 have hb : ∃ b : Bool, b = dec (To ws (Lg 0) 0 ws.length) ∧ (b = true ↔ LangE e ws) := ⟨_, rfl, by rw [dec_iff, to_all]; exact HLAB.out.lg ws⟩
 obtain ⟨b, hb1, hb2⟩ := hb
 have hcl' : w4.cell? (ad.add ws.length) = some (.bool b) := by rw [hb1, ← hrd]; exact hcl
 have HBB := Lib.hid hb2
 have hp0 : (0 ≤ (ws.length : Int)) = True := eq_true (by omega)
 have hp1 : ((ws.length : Int) < (ws.length : Int) + 1) = True := eq_true (by omega)
 have hlr : (rowL ws (Lg (⟨e, 0, kids⟩ : Pr.S63).f1) 0).length = ws.length + 1 := rowL_len _ _ _
 clear hcl hrd hb1 hb2 hb4 hs4 hv7 hfrom hmem henv hfk hby HV43 HV63 HBw KM3 KG3 HWW
 go_wp2_with (fail)
 go_ret
 exact ⟨⟨b, rfl, HBB.out⟩, HB4.out⟩
end Go.Proofs.YthocjdlcopmhiaaDoor.G
namespace Go.Proofs.YthocjdlcopmhiaaDoor.G
open Go.RowKit Go.Proofs.YthocjdlcopmhiaaDoorW.PrintWords Go.Proofs.YthocjdlcopmhiaaDoorW.PrintLast Go.Proofs.YthocjdlcopmhiaaDoorW.PrintMore
attribute [local go_sem] max2_int min2_int max_two min_two max_three min_three max_four min_four
set_option linter.unusedVariables false
set_option linter.unusedSimpArgs false
structure E24 (w : World) (e : Pr.S24) (A : Option Addr) (c : Nat) : Prop where
 C : Kd.C Pr.k24 w A e.f4.length e.f4
 le : e.f4.length ≤ c
theorem E24.below {w w' : World} {e : Pr.S24} {A : Option Addr} {c : Nat} (h : E24 w e A c) (hb : Below w.heap.size w w') : E24 w' e A c := ⟨Kd.C_below h.C hb, h.le⟩
structure I24 (w : World) (l : List Int) (A : Option Addr) (c : Nat) : Prop where
 C : Kd.C KI w A l.length l
 le : l.length ≤ c
theorem I24.below {w w' : World} {l : List Int} {A : Option Addr} {c : Nat} (h : I24 w l A c) (hb : Below w.heap.size w w') : I24 w' l A c := ⟨Kd.C_below h.C hb, h.le⟩
theorem heap_k24 : Kd.Heap Pr.k24 := Kd.heap_fix (fun _ hd => Kd.heap_iso _ (Kd.heap_pair (Kd.heap_int _) (Kd.heap_pair (Kd.heap_int _) (Kd.heap_pair (Kd.heap_int _) (Kd.heap_pair (Kd.heap_int _) (Kd.heap_slice _ hd))))))
theorem E24.V {w : World} {e : Pr.S24} {A : Option Addr} {c : Nat} (h : E24 w e A c) : Kd.V Pr.k24 24 w 0 (fun k => k < w.heap.size) (.slice A e.f4.length c) e.f4 := Kd.V_mk h.le (Kd.C_F heap_k24 h.C)
theorem I24.V {w : World} {l : List Int} {A : Option Addr} {c : Nat} (h : I24 w l A c) : Kd.V KI 3 w 0 (fun k => k < w.heap.size) (.slice A l.length c) l := Kd.V_mk h.le (Kd.C_F (Kd.heap_int _) h.C)
def Right (e : Pr.S24) : Prop := ∃ k, glush_Check.f k e.f0 e.f1 e.f2 e.f3 e.f4 = some 0
section
variable {w : World} {e : Pr.S24} {A : Option Addr} {c : Nat}
theorem few_c (h : E24 w e A c) : Calls Tryd.prog 6 #[EV e A c] w fun en w' => (∃ b : Bool, en = .returned (.bool b)) ∧ Below w.heap.size w w' := by
 obtain ⟨k, b, hb⟩ := few_total e
 refine (Pr.rubriclaw9_Few.calls k e.f0 e.f1 e.f2 e.f3 A c e.f4 b w h.C h.le hb).mono ?_
 rintro en w' ⟨rfl, hb⟩
 exact ⟨⟨b, rfl⟩, hb⟩
theorem check_c (h : E24 w e A c) : Calls Tryd.prog 7 #[EV e A c] w fun en w' => (∃ r : Int, en = .returned (.int .i64 r) ∧ (r = 0 → Right e)) ∧ Below w.heap.size w w' := by
 obtain ⟨k, r, hr⟩ := check_total e
 refine (glush_Check.calls k e.f0 e.f1 e.f2 e.f3 A c e.f4 r w h.C h.le hr).mono ?_
 rintro en w' ⟨rfl, hb⟩
 exact ⟨⟨r, rfl, fun h0 => ⟨k, by rw [hr, h0]⟩⟩, hb⟩
theorem word_c {ws : List Int} {Aw : Option Addr} {cw : Nat} (h : E24 w e A c) (hw : I24 w ws Aw cw) (hn : ws.length < 1048576) (hr : Right e) :
  Calls Tryd.prog 10 #[EV e A c, .slice Aw ws.length cw] w fun en w' => (∃ b : Bool, en = .returned (.bool b) ∧ (b = true ↔ LangE e ws)) ∧ Below w.heap.size w w' := by
 obtain ⟨k, hr⟩ := hr
 exact word_calls k e A c ws Aw cw w h.V hw.V hn hr
theorem pos_c (h : E24 w e A c) (hr : Right e) (most : Int) (h0 : 0 ≤ most) (h1 : most ≤ 1099511627776) : Calls Tryd.prog 13 #[EV e A c, .int .i64 most] w fun en w' => en = .returned (.int .i64 (min ((cntE e : Nat) : Int) (most + 1))) ∧ Below w.heap.size w w' := by
 obtain ⟨k, hr⟩ := hr
 obtain ⟨hwf, hsz⟩ := check_res hr
 exact Pr.glush_Positions.calls _ e.f0 e.f1 e.f2 e.f3 A c e.f4 most _ w h.C h.le (pos_ok _ e (Nat.le_refl _) (by omega) hwf most h0 h1)
theorem build_c (h : E24 w e A c) (htab : HTab w) (hr : Right e) (most : Int) (hc : ((cntE e : Nat) : Int) ≤ min most 512) : Calls Tryd.prog 9 #[EV e A c, .int .i64 most] w fun en w' => (∃ (a : AD) (A0 : Option Addr) (c0 : Nat) (A2 : Option Addr) (c2 : Nat) (A3 : Option Addr) (c3 : Nat) (A4 : Option Addr) (c4 : Nat), en = .returned (.tuple #[AVl a A0 c0 A2 c2 A3 c3 A4 c4, .int .i64 0]) ∧ ARead w' a A0 c0 A2 c2 A3 c3 A4 c4 ∧ AutoOf e a) ∧ Below w.heap.size w w' := by
 obtain ⟨k, hr⟩ := hr
 obtain ⟨k2, a, h1, h2⟩ := build_ok hr most hc
 refine (glush_Build.calls k2 e.f0 e.f1 e.f2 e.f3 A c e.f4 most _ _ _ _ _ _ w h.C h.le htab h1).mono ?_
 rintro en w' ⟨v0, v2, v3, v4, rfl, g0, g2, g3, g4, hb⟩
 obtain ⟨A0, c0, rfl⟩ := Kd.V_slice g0
 obtain ⟨A2, c2, rfl⟩ := Kd.V_slice g2
 obtain ⟨A3, c3, rfl⟩ := Kd.V_slice g3
 obtain ⟨A4, c4, rfl⟩ := Kd.V_slice g4
 have n0 := h2.n0; have n2 := h2.n2; have n3 := h2.n3; have n4 := h2.n4
 exact ⟨⟨a, A0, c0, A2, c2, A3, c3, A4, c4, rfl, ⟨Kd.F_now (Kd.V_at g0).2.2, (Kd.V_at g0).2.1, Kd.F_now (Kd.V_at g2).2.2, (Kd.V_at g2).2.1, Kd.F_now (Kd.V_at g3).2.2, (Kd.V_at g3).2.1, Kd.F_now (Kd.V_at g4).2.2, (Kd.V_at g4).2.1, by omega, by omega, by omega, by omega, fun r h => by have := h2.nr r h; omega⟩, h2⟩, hb⟩
theorem aword_c {a : AD} {A0 : Option Addr} {c0 : Nat} {A2 : Option Addr} {c2 : Nat} {A3 : Option Addr} {c3 : Nat} {A4 : Option Addr} {c4 : Nat} (hr : ARead w a A0 c0 A2 c2 A3 c3 A4 c4) (ho : AutoOf e a) {ws : List Int} {Aw : Option Addr} {cw : Nat} (hw : I24 w ws Aw cw) (hn : ws.length < 1048576) :
  Calls Tryd.prog 11 #[AVl a A0 c0 A2 c2 A3 c3 A4 c4, .slice Aw ws.length cw] w fun en w' => (∃ b : Bool, en = .returned (.bool b) ∧ (b = true ↔ LangE e ws)) ∧ Below w.heap.size w w' := by
 refine (autoWord_calls ws Aw cw hr hw.C hw.le hn).mono ?_
 rintro en w' ⟨b, h1, h2, h3⟩
 exact ⟨⟨b, h1, h2.trans (ho.acc ws)⟩, h3⟩
theorem live_c {a : AD} {A0 : Option Addr} {c0 : Nat} {A2 : Option Addr} {c2 : Nat} {A3 : Option Addr} {c3 : Nat} {A4 : Option Addr} {c4 : Nat} (hr : ARead w a A0 c0 A2 c2 A3 c3 A4 c4) (ho : AutoOf e a) :
  Calls Tryd.prog 12 #[AVl a A0 c0 A2 c2 A3 c3 A4 c4] w fun en w' => (∃ b : Bool, en = .returned (.bool b) ∧ (b = true ↔ ∃ ws, LangE e ws)) ∧ Below w.heap.size w w' := by
 refine (live_calls hr (fun x hx => by have := ho.r2 x hx; omega) (fun r h1 x h2 => by have := ho.r4 r h1 x h2; omega)).mono ?_
 rintro en w' ⟨b, h1, h2, h3⟩
 exact ⟨⟨b, h1, h2.trans (a.live_iff.trans ⟨fun ⟨ws, h⟩ => ⟨ws, (ho.acc ws).1 h⟩, fun ⟨ws, h⟩ => ⟨ws, (ho.acc ws).2 h⟩⟩)⟩, h3⟩
end
set_option maxHeartbeats 4000000 in
set_option maxRecDepth 100000 in
theorem cost_c {w : World} {e : Pr.S24} {A : Option Addr} {c : Nat} (h : E24 w e A c) (hr : Right e) : Calls Tryd.prog 8 #[EV e A c] w fun en w' => en = .returned (.int .i64 (min ((cntE e : Nat) : Int) 201)) ∧ Below w.heap.size w w' := by
 have hu24 := Tryd.underlying24; have hu45 := Tryd.underlying45
 obtain ⟨k, hr⟩ := hr
 obtain ⟨hwf, hsz⟩ := check_res hr
 have hof := of_all _ e (Nat.le_refl _) (by omega)
 have href := ref_ok _ e (Nat.le_refl _) (by omega) hwf
 have HH := Lib.hid h; have HOF := Lib.hid hof; have HREF := Lib.hid href
 clear h hr hwf hsz hof href
 go_enter Tryd.func8, Tryd.ntmps8
 go_upto_region 1 with (fail)
 have hb := below_alloc (Below.refl w.heap.size w) (.cells #[.int .i64 e.f0, .int .i64 e.f1, .int .i64 e.f2, .int .i64 e.f3, .slice A e.f4.length c] 24)
 have KE := Lib.hid (show (w.alloc (.cells #[.int .i64 e.f0, .int .i64 e.f1, .int .i64 e.f2, .int .i64 e.f3, .slice A e.f4.length c] 24)).heap[w.heap.size]? = some (.cells #[.int .i64 e.f0, .int .i64 e.f1, .int .i64 e.f2, .int .i64 e.f3, .slice A e.f4.length c] 24 (0, 0)) from blk_new w _)
 generalize w.alloc (.cells #[.int .i64 e.f0, .int .i64 e.f1, .int .i64 e.f2, .int .i64 e.f3, .slice A e.f4.length c] 24) = w1 at hb KE ⊢
 have HB := Lib.hid hb; clear hb
 obtain ⟨x0, x1, x2, x3, x4⟩ := cls5 KE.out
 go_wp2_with (fail)
 clear x0 x1 x2 x3 x4
 have HH1 := HH.out.below HB.out
 refine (OfC.call HOF.out w1 A c HH1.C).mono ?_
 rintro en w2 ⟨A4, c4, rfl, hv2, hb2⟩
 have HV := Lib.hid (Kd.F_now (Kd.V_at hv2).2.2)
 have HB2 := Lib.hid (below_step HB.out hb2)
 clear hv2 hb2 HH1 KE HB
 go_wp2_with (fail)
 refine (HREF.out w2 A4 c4 HV.out).mono ?_
 rintro en w3 ⟨rfl, hb3⟩
 have HB3 := Lib.hid (below_step HB2.out hb3)
 clear hb3
 go_wp2_with (fail)
 go_ret
 exact ⟨rfl, HB3.out⟩
end Go.Proofs.YthocjdlcopmhiaaDoor.G
namespace Go.Proofs.YthocjdlcopmhiaaDoor.G
open Go.RowKit Go.Proofs.YthocjdlcopmhiaaDoorW.PrintWords Go.Proofs.YthocjdlcopmhiaaDoorW.PrintLast Go.Proofs.YthocjdlcopmhiaaDoorW.PrintMore
attribute [local go_sem] max2_int min2_int max_two min_two max_three min_three max_four min_four
set_option linter.unusedVariables false
set_option linter.unusedSimpArgs false
open GP (Cat Eps Pow)
theorem I24.cells {w : World} {g : Nat} {t : TypeId} {l : List Int} (hh : w.heap[g]? = some (.cells (l.map (Value.int .i64)).toArray t (0, 0))) (hm : l.length < 4611686018427387904) : I24 w l (some ⟨g, 0, none⟩) l.length :=
 ⟨⟨rfl, by omega, fun _ => ⟨⟨g, 0, none⟩, rfl, fun j p hj => ⟨[.int .i64 p], rfl, rfl, fun i u hu => by
  cases i with
  | succ i => cases hu
  | zero =>
   have ha : (⟨g, 0, none⟩ : Addr).add (j * KI.sz + 0) = ⟨g, j, none⟩ := by
    show (⟨g, 0, none⟩ : Addr).add (j * 1 + 0) = _
    unfold Addr.add
    by_cases h0 : j * 1 + 0 = 0
    ·have : j = 0 := by omega
     subst this; rfl
    ·rw [if_neg h0]; simp
   rw [ha, blk_cell hh j]
   simpa [hj] using hu⟩⟩⟩, Nat.le_refl _⟩
theorem C_reps {w : World} {g : Nat} {t : TypeId} {xs : List Pr.S24} {inner : List Value} (hh : w.heap[g]? = some (.cells inner.toArray t (0, 0))) (hr : Reps (Pr.k24.K w) 5 xs inner) (hm : xs.length < 4611686018427387904) : Kd.C Pr.k24 w (some ⟨g, 0, none⟩) xs.length xs :=
 ⟨rfl, by omega, fun _ => ⟨⟨g, 0, none⟩, rfl, fun j p hj => by
  have h2 := hr.2 j p hj
  refine ⟨_, Pr.k24.K_len h2, h2, fun i u hu => ?_⟩
  have h4 : inner[j * 5 + i]? = some u := by
   rw [List.getElem?_take] at hu
   split at hu
   ·rwa [List.getElem?_drop] at hu
   ·cases hu
  have ha : (⟨g, 0, none⟩ : Addr).add (j * Pr.k24.sz + i) = ⟨g, j * 5 + i, none⟩ := by
   show (⟨g, 0, none⟩ : Addr).add (j * 5 + i) = _
   unfold Addr.add
   by_cases h0 : j * 5 + i = 0
   ·simp [h0]
   ·rw [if_neg h0]; simp
  rw [ha, blk_cell hh (j * 5 + i)]
  simpa using h4⟩⟩
theorem E24.K {w : World} {e : Pr.S24} {A : Option Addr} {c : Nat} (h : E24 w e A c) : Pr.k24.K w e [.int .i64 e.f0, .int .i64 e.f1, .int .i64 e.f2, .int .i64 e.f3, .slice A e.f4.length c] := Pr.k24_mk w e h.le h.C
theorem E24.nil {w : World} {a b c d : Int} : E24 w ⟨a, b, c, d, []⟩ none 0 := ⟨Kd.C_nil Pr.k24 w, Nat.le_refl _⟩
theorem E24.mk1 {w : World} {g : Nat} {t : TypeId} {x : Pr.S24} {A : Option Addr} {c : Nat} (a b lo hi : Int) (hx : E24 w x A c) (hh : w.heap[g]? = some (.cells #[.int .i64 x.f0, .int .i64 x.f1, .int .i64 x.f2, .int .i64 x.f3, .slice A x.f4.length c] t (0, 0))) : E24 w ⟨a, b, lo, hi, [x]⟩ (some ⟨g, 0, none⟩) 1 :=
 ⟨C_reps hh (Reps.c5 hx.K (Reps.none _ _)) (by simp), Nat.le_refl _⟩
theorem E24.mk2 {w : World} {g : Nat} {t : TypeId} {x y : Pr.S24} {A B : Option Addr} {c d : Nat} (a b lo hi : Int) (hx : E24 w x A c) (hy : E24 w y B d) (hh : w.heap[g]? = some (.cells #[.int .i64 x.f0, .int .i64 x.f1, .int .i64 x.f2, .int .i64 x.f3, .slice A x.f4.length c, .int .i64 y.f0, .int .i64 y.f1, .int .i64 y.f2, .int .i64 y.f3, .slice B y.f4.length d] t (0, 0))) : E24 w ⟨a, b, lo, hi, [x, y]⟩ (some ⟨g, 0, none⟩) 2 :=
 ⟨C_reps hh (Reps.c5 hx.K (Reps.c5 hy.K (Reps.none _ _))) (by simp), Nat.le_refl _⟩
theorem E24.mk3 {w : World} {g : Nat} {t : TypeId} {x y z : Pr.S24} {A B C : Option Addr} {c d f : Nat} (a b lo hi : Int) (hx : E24 w x A c) (hy : E24 w y B d) (hz : E24 w z C f) (hh : w.heap[g]? = some (.cells #[.int .i64 x.f0, .int .i64 x.f1, .int .i64 x.f2, .int .i64 x.f3, .slice A x.f4.length c, .int .i64 y.f0, .int .i64 y.f1, .int .i64 y.f2, .int .i64 y.f3, .slice B y.f4.length d, .int .i64 z.f0, .int .i64 z.f1, .int .i64 z.f2, .int .i64 z.f3, .slice C z.f4.length f] t (0, 0))) : E24 w ⟨a, b, lo, hi, [x, y, z]⟩ (some ⟨g, 0, none⟩) 3 :=
 ⟨C_reps hh (Reps.c5 hx.K (Reps.c5 hy.K (Reps.c5 hz.K (Reps.none _ _)))) (by simp), Nat.le_refl _⟩
def kA : Pr.S24 := ⟨2, 5, 0, 0, []⟩
def kS : Pr.S24 := ⟨2, 7, 0, 0, []⟩
def kR : Pr.S24 := ⟨5, 0, 0, -1, [kS]⟩
def kE : Pr.S24 := ⟨3, 0, 0, 0, [kA, kR]⟩
theorem kE_right : Right kE := ⟨10, by rfl⟩
theorem kE_cnt : cntE kE = 2 := by simp only [kE, kA, kR, kS, cntE, cntL, tms]; decide
theorem k_cat (w : List Int) : LangE kE w ↔ Cat (fun u => u = [5]) (Cat (TimesI (fun u => u = [7]) 0 (-1)) Eps) w := by
 have hA : ∀ u, LangE kA u ↔ u = [5] := fun u => by simp [kA, LangE]
 have hS : LangE kS = fun u => u = [7] := funext fun u => propext (by simp [kS, LangE])
 have hR : ∀ u, LangE kR u ↔ TimesI (fun u => u = [7]) 0 (-1) u := fun u => by rw [← hS]; simp [kR, LangE, LangR]
 rw [langE_eq]
 simp only [kE]
 simp only [LangS]
 constructor
 ·rintro (⟨h, _⟩ | ⟨h, _⟩ | ⟨_, u, v, h1, h2, u2, v2, h3, h4, h5⟩ | ⟨h, _⟩ | ⟨h, _⟩)
  ·cases h
  ·cases h
  ·exact ⟨u, v, h1, (hA u).1 h2, u2, v2, h3, (hR u2).1 h4, h5⟩
  ·cases h
  ·cases h
 ·rintro ⟨u, v, h1, h2, u2, v2, h3, h4, h5⟩
  exact .inr (.inr (.inl ⟨trivial, u, v, h1, (hA u).2 h2, u2, v2, h3, (hR u2).2 h4, h5⟩))
theorem k_no {w : List Int} (h : w.head? ≠ some 5) : ¬ LangE kE w := fun hl => by
 obtain ⟨u, v, h1, h2, _⟩ := (k_cat w).1 hl
 rw [h1, h2] at h
 exact h rfl
theorem k_577 : LangE kE [5, 7, 7] := (k_cat _).2 ⟨[5], [7, 7], rfl, rfl, [7, 7], [], rfl, ⟨2, by decide, .inl rfl, [7], [7], rfl, ⟨[], [7], rfl, rfl, rfl⟩, rfl⟩, rfl⟩
theorem k_5 : LangE kE [5] := (k_cat _).2 ⟨[5], [], rfl, rfl, [], [], rfl, ⟨0, by decide, .inl rfl, rfl⟩, rfl⟩
set_option maxHeartbeats 4000000 in
set_option maxRecDepth 100000 in
theorem known_calls (w : World) (htab : HTab w) : Calls Tryd.prog 5 #[] w fun en w' => en = .returned (.bool true) ∧ Below w.heap.size w w' := by
 have hu24 := Tryd.underlying24; have hu33 := Tryd.underlying33
 go_enter Tryd.func5, Tryd.ntmps5
 go_upto_region 3 with (fail)
 generalize hw1 : w.alloc (.cells #[.int .i64 2, .int .i64 5, .int .i64 0, .int .i64 0, .slice none 0 0] 24) = w1
 have b1 : Below w.heap.size w w1 := hw1 ▸ below_alloc (Below.refl _ _) _
 have s1 : w1.heap.size = w.heap.size + 1 := by rw [← hw1]; simp
 generalize hw2 : w1.alloc (.cells #[.int .i64 2, .int .i64 7, .int .i64 0, .int .i64 0, .slice none 0 0] 24) = w2
 have b2 : Below w1.heap.size w1 w2 := hw2 ▸ below_alloc (Below.refl _ _) _
 have s2 : w2.heap.size = w.heap.size + 1 + 1 := by rw [← hw2, ← s1]; simp
 have k2 : w2.heap[w.heap.size + 1]? = some (.cells #[.int .i64 2, .int .i64 7, .int .i64 0, .int .i64 0, .slice none 0 0] 24 (0, 0)) := by rw [← s1, ← hw2]; exact blk_new _ _
 have e2 : E24 w2 kR (some ⟨w.heap.size + 1, 0, none⟩) 1 := E24.mk1 5 0 0 (-1) (x := kS) (A := none) (c := 0) E24.nil k2
 generalize hw3 : w2.alloc (.cells #[.int .i64 2, .int .i64 5, .int .i64 0, .int .i64 0, .slice none 0 0, .int .i64 5, .int .i64 0, .int .i64 0, .int .i64 (-1), .slice (some ⟨w.heap.size + 1, 0, none⟩) 1 1] 24) = w3
 have b3 : Below w2.heap.size w2 w3 := hw3 ▸ below_alloc (Below.refl _ _) _
 have s3 : w3.heap.size = w.heap.size + 1 + 1 + 1 := by rw [← hw3, ← s2]; simp
 have k3 : w3.heap[w.heap.size + 1 + 1]? = some (.cells #[.int .i64 2, .int .i64 5, .int .i64 0, .int .i64 0, .slice none 0 0, .int .i64 5, .int .i64 0, .int .i64 0, .int .i64 (-1), .slice (some ⟨w.heap.size + 1, 0, none⟩) 1 1] 24 (0, 0)) := by rw [← s2, ← hw3]; exact blk_new _ _
 have e3 : E24 w3 kE (some ⟨w.heap.size + 1 + 1, 0, none⟩) 2 := E24.mk2 3 0 0 0 (x := kA) (y := kR) (A := none) (c := 0) E24.nil (e2.below b3) k3
 generalize hw4 : w3.alloc (.cells #[.int .i64 3, .int .i64 0, .int .i64 0, .int .i64 0, .slice (some ⟨w.heap.size + 1 + 1, 0, none⟩) 2 2] 24) = w4
 have b4 : Below w3.heap.size w3 w4 := hw4 ▸ below_alloc (Below.refl _ _) _
 have k4 : w4.heap[w.heap.size + 1 + 1 + 1]? = some (.cells #[.int .i64 3, .int .i64 0, .int .i64 0, .int .i64 0, .slice (some ⟨w.heap.size + 1 + 1, 0, none⟩) 2 2] 24 (0, 0)) := by rw [← s3, ← hw4]; exact blk_new _ _
 have HE := Lib.hid (e3.below b4); have HK := Lib.hid k4
 have HB := Lib.hid (below_step (below_step (below_step b1 b2) b3) b4)
 have HTB := Lib.hid (htab.below HB.out)
 clear hw1 hw2 hw3 hw4 b1 b2 b3 b4 s1 s2 s3 k2 k3 k4 e2 e3 htab
 clear w1 w2 w3
 obtain ⟨x0, x1, x2, x3, x4⟩ := cls5 HK.out
 go_wp2_with (fail)
 clear x0 x1 x2 x3 x4
 refine (build_c HE.out HTB.out kE_right 10 (by rw [kE_cnt]; decide)).mono ?_
 rintro en w5 ⟨⟨a, A0, c0, A2, c2, A3, c3, A4, c4, rfl, hr, ho⟩, hb5⟩
 go_upto_region 4 with (fail)
 have hb6 := below_alloc (Below.refl w5.heap.size w5) (.cells #[.slice A0 a.syms.length c0, .bool a.null, .slice A2 a.first.length c2, .slice A3 a.last.length c3, .slice A4 a.follow.length c4] 33)
 have KA := Lib.hid (show (w5.alloc (.cells #[.slice A0 a.syms.length c0, .bool a.null, .slice A2 a.first.length c2, .slice A3 a.last.length c3, .slice A4 a.follow.length c4] 33)).heap[w5.heap.size]? = some (AB a A0 c0 A2 c2 A3 c3 A4 c4) from blk_new w5 _)
 have HR6 := Lib.hid (hr.below hb6); have HO := Lib.hid ho
 have HE6 := Lib.hid ((HE.out.below hb5).below hb6); have HK6 := Lib.hid (blk_below (blk_below HK.out hb5) hb6); have HB6 := Lib.hid (below_step (below_step HB.out hb5) hb6)
 have hs2 : ((a.syms.length : Int) == 2) = true := by rw [ho.n, kE_cnt]; rfl
 have hnl : a.null = false := by
  cases hn : a.null with
  | false => rfl
  | true => exact (k_no (by simp) ((ho.acc []).1 hn)).elim
 generalize w5.alloc (.cells #[.slice A0 a.syms.length c0, .bool a.null, .slice A2 a.first.length c2, .slice A3 a.last.length c3, .slice A4 a.follow.length c4] 33) = w6 at hb6 KA HR6 HE6 HK6 HB6 ⊢
 clear hb5 hb6 hr ho HE HK HB HTB
 generalize w5.heap.size = g at KA ⊢
 generalize w.heap.size + 1 + 1 + 1 = gE at HK6 ⊢
 generalize w.heap.size + 1 + 1 = gK at HK6 HE6 ⊢
 clear w5
 have hnn : (!a.null) = true := by rw [hnl]; rfl
 have HNN := Lib.hid hnn; clear hnl hnn
 obtain ⟨y0, y1, y2, y3, y4⟩ := cls5 KA.out
 go_wp2_with (fail)
 clear y0 y1 y2 y3 y4
 generalize hwa : w6.alloc (.cells #[.int .i64 5, .int .i64 7, .int .i64 7] 3) = wa
 have ba : Below w6.heap.size w6 wa := hwa ▸ below_alloc (Below.refl _ _) _
 have ka : wa.heap[w6.heap.size]? = some (.cells #[.int .i64 5, .int .i64 7, .int .i64 7] 3 (0, 0)) := by rw [← hwa]; exact blk_new _ _
 have ia : I24 wa [5, 7, 7] (some ⟨w6.heap.size, 0, none⟩) 3 := I24.cells (l := [5, 7, 7]) ka (by decide)
 have KAa := Lib.hid (blk_below KA.out ba); have HRa := Lib.hid (HR6.out.below ba); have HEa := Lib.hid (HE6.out.below ba); have HKa := Lib.hid (blk_below HK6.out ba); have HBa := Lib.hid (below_step HB6.out ba)
 clear hwa ba ka KA HR6 HE6 HK6 HB6
 refine (aword_c HRa.out HO.out ia (by decide)).mono ?_
 rintro en w7 ⟨⟨b, rfl, hbb⟩, hb⟩
 have hb1 : b = true := hbb.2 k_577
 subst hb1
 have KA := Lib.hid (blk_below KAa.out hb); have HR7 := Lib.hid (HRa.out.below hb); have HE7 := Lib.hid (HEa.out.below hb); have HK7 := Lib.hid (blk_below HKa.out hb); have HB7 := Lib.hid (below_step HBa.out hb)
 clear hb hbb KAa HRa HEa HKa HBa ia wa
 obtain ⟨y0, y1, y2, y3, y4⟩ := cls5 KA.out
 obtain ⟨x0, x1, x2, x3, x4⟩ := cls5 HK7.out
 go_wp2_with (fail)
 clear y0 y1 y2 y3 y4 x0 x1 x2 x3 x4
 generalize hwa : w7.alloc (.cells #[.int .i64 7] 3) = wa
 have ba : Below w7.heap.size w7 wa := hwa ▸ below_alloc (Below.refl _ _) _
 have ka : wa.heap[w7.heap.size]? = some (.cells #[.int .i64 7] 3 (0, 0)) := by rw [← hwa]; exact blk_new _ _
 have ia : I24 wa [7] (some ⟨w7.heap.size, 0, none⟩) 1 := I24.cells (l := [7]) ka (by decide)
 have KAa := Lib.hid (blk_below KA.out ba); have HRa := Lib.hid (HR7.out.below ba); have HEa := Lib.hid (HE7.out.below ba); have HKa := Lib.hid (blk_below HK7.out ba); have HBa := Lib.hid (below_step HB7.out ba)
 clear hwa ba ka KA HR7 HE7 HK7 HB7
 refine (aword_c HRa.out HO.out ia (by decide)).mono ?_
 rintro en w8 ⟨⟨b, rfl, hbb⟩, hb⟩
 have hb1 : b = false := by
  cases b with
  | false => rfl
  | true => exact (k_no (by simp) (hbb.1 rfl)).elim
 subst hb1
 have KA := Lib.hid (blk_below KAa.out hb); have HR8 := Lib.hid (HRa.out.below hb); have HE8 := Lib.hid (HEa.out.below hb); have HK8 := Lib.hid (blk_below HKa.out hb); have HB8 := Lib.hid (below_step HBa.out hb)
 clear hb hbb KAa HRa HEa HKa HBa
 obtain ⟨y0, y1, y2, y3, y4⟩ := cls5 KA.out
 obtain ⟨x0, x1, x2, x3, x4⟩ := cls5 HK8.out
 have hnn := HNN.out
 go_wp2_with (fail)
 clear y0 y1 y2 y3 y4 x0 x1 x2 x3 x4
 clear hnn
 have KAa := KA; have HRa := HR8; have HEa := HE8; have HKa := HK8; have HBa := HB8
 clear KA HR8 HE8 HK8 HB8
 refine (live_c HRa.out HO.out).mono ?_
 rintro en w9 ⟨⟨b, rfl, hbb⟩, hb⟩
 have hb1 : b = true := hbb.2 ⟨_, k_5⟩
 subst hb1
 have KA := Lib.hid (blk_below KAa.out hb); have HR9 := Lib.hid (HRa.out.below hb); have HE9 := Lib.hid (HEa.out.below hb); have HK9 := Lib.hid (blk_below HKa.out hb); have HB9 := Lib.hid (below_step HBa.out hb)
 clear hb hbb KAa HRa HEa HKa HBa
 obtain ⟨y0, y1, y2, y3, y4⟩ := cls5 KA.out
 obtain ⟨x0, x1, x2, x3, x4⟩ := cls5 HK9.out
 go_wp2_with (fail)
 clear y0 y1 y2 y3 y4 x0 x1 x2 x3 x4
 generalize hwa : w9.alloc (.cells #[.int .i64 5] 3) = wa
 have ba : Below w9.heap.size w9 wa := hwa ▸ below_alloc (Below.refl _ _) _
 have ka : wa.heap[w9.heap.size]? = some (.cells #[.int .i64 5] 3 (0, 0)) := by rw [← hwa]; exact blk_new _ _
 have ia : I24 wa [5] (some ⟨w9.heap.size, 0, none⟩) 1 := I24.cells (l := [5]) ka (by decide)
 have KAa := Lib.hid (blk_below KA.out ba); have HRa := Lib.hid (HR9.out.below ba); have HEa := Lib.hid (HE9.out.below ba); have HKa := Lib.hid (blk_below HK9.out ba); have HBa := Lib.hid (below_step HB9.out ba)
 clear hwa ba ka KA HR9 HE9 HK9 HB9
 refine (word_c HEa.out ia (by decide) kE_right).mono ?_
 rintro en w10 ⟨⟨b, rfl, hbb⟩, hb⟩
 have hb1 : b = true := hbb.2 k_5
 subst hb1
 have KA := Lib.hid (blk_below KAa.out hb); have HR10 := Lib.hid (HRa.out.below hb); have HE10 := Lib.hid (HEa.out.below hb); have HK10 := Lib.hid (blk_below HKa.out hb); have HB10 := Lib.hid (below_step HBa.out hb)
 clear hb hbb KAa HRa HEa HKa HBa
 obtain ⟨y0, y1, y2, y3, y4⟩ := cls5 KA.out
 obtain ⟨x0, x1, x2, x3, x4⟩ := cls5 HK10.out
 go_wp2_with (fail)
 clear y0 y1 y2 y3 y4 x0 x1 x2 x3 x4
 refine (pos_c HE10.out kE_right 9 (by decide) (by decide)).mono ?_
 rintro en w11 ⟨rfl, hb⟩
 have HB11 := Lib.hid (below_step HB10.out hb)
 rw [kE_cnt]
 go_wp2_with (fail)
 go_ret
 exact ⟨rfl, HB11.out⟩
end Go.Proofs.YthocjdlcopmhiaaDoor.G
