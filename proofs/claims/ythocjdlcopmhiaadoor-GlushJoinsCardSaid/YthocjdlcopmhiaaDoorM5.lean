import Derived.Test.YthocjdlcopmhiaaDoorProg
import Derived.Below
import Derived.Deep.Draws
import Derived.Deep.AppendLies
import Derived.Maps.AppendAt
import Derived.OwnWalk
import Derived.Laws.BytesArg
import Derived.Laws.MakeOwn
import Derived.Laws.OwnMore
import Derived.Deep.OwnRows
import Derived.Tactics
import Derived.Lib.ConvBytes
import Derived.Laws.Slices
import Derived.WalkKit
import Derived.KernelRfl
import Derived.RowKit3
import Derived.Deep.LoopGhost
import Derived.Deep.QuietTactic
import Derived.BigQuiet
import Derived.WideLaws
import Derived.Deep.DeepCutAuto
import Derived.Deep.CutBlock
import Derived.Deep.RegionHeld3
import Derived.Laws.Rows
import Derived.Lib.AppendStr
import Derived.ArgAppend
import Derived.Laws.IdiomCopy
import Derived.OrdersHeld
import Derived.Laws.BitsLemmas
import Derived.RowKit
import Derived.Test.YthocjdlcopmhiaaDoorWWords
import Derived.Test.YthocjdlcopmhiaaDoorWLast
import Derived.Test.YthocjdlcopmhiaaDoorWTab
import Derived.Test.YthocjdlcopmhiaaDoorWQPut
import Derived.Test.YthocjdlcopmhiaaDoorWApart
import Derived.Test.YthocjdlcopmhiaaDoorWArr
import Derived.Test.YthocjdlcopmhiaaDoorWZeros
import Derived.Test.YthocjdlcopmhiaaDoorWFoot
import Derived.Test.YthocjdlcopmhiaaDoorWKept
import Derived.Test.YthocjdlcopmhiaaDoorWShare
import Derived.Test.YthocjdlcopmhiaaDoorWN
import Derived.Test.YthocjdlcopmhiaaDoorWRepsOne
import Derived.Test.YthocjdlcopmhiaaDoorWGuard
import Derived.Test.YthocjdlcopmhiaaDoorWNEv
import Derived.Test.YthocjdlcopmhiaaDoorWMore
import Derived.Test.YthocjdlcopmhiaaDoorWEqStruct
import Derived.Test.YthocjdlcopmhiaaDoorWFour
import Derived.Test.YthocjdlcopmhiaaDoorWFootNe
import Derived.Test.YthocjdlcopmhiaaDoorWAt
import Derived.Test.YthocjdlcopmhiaaDoorWInv
import Derived.Test.YthocjdlcopmhiaaDoorWInvWords
import Derived.Test.YthocjdlcopmhiaaDoorM4
namespace Go.Proofs.YthocjdlcopmhiaaDoor.G
open Go.RowKit Go.Proofs.YthocjdlcopmhiaaDoorW.PrintWords Go.Proofs.YthocjdlcopmhiaaDoorW.PrintLast Go.Proofs.YthocjdlcopmhiaaDoorW.PrintMore
attribute [local go_sem] max2_int min2_int max_two min_two max_three min_three max_four min_four
set_option linter.unusedVariables false
set_option linter.unusedSimpArgs false
set_option maxHeartbeats 8000000 in
set_option maxRecDepth 100000 in
theorem rep_for (k : Nat) (n : Int) (hn0 : 0 ≤ n) (hn1 : n ≤ 512) (pf : PFn) (hpf : PartOk 19 n pf) (w0 w : World) (g : Nat) (Z : Nat → Prop) (syms : List Int) (rows : List (List Int)) (f0 f1 f2 : Int) (f4 : List Pr.S24) (A : Option Addr) (c : Nat) (t pp : Int) (cc : List Pt × List Int × List (List Int)) (r : PR)
  (hb : Bd w0 w g Z n syms rows) (htab : HTab w0) (hB : Below w0.heap.size w0 w) (hC : Kd.C Pr.k24 w0 A f4.length f4) (hc : f4.length ≤ c) (hp : 0 < f4.length) (ht : Pr.glush_times.f f0 f1 f2 (-1) f4 = some t) (ht0 : 0 < t) (ht1 : t ≤ 4096) (hpo : Pr.glush_Positions.f k (Pr.rd_T24 f4 0).f0 (Pr.rd_T24 f4 0).f1 (Pr.rd_T24 f4 0).f2 (Pr.rd_T24 f4 0).f3 (Pr.rd_T24 f4 0).f4 1 = some pp) (hpp : pp ≠ 0) (hcc : copies pf (Pr.rd_T24 f4 0) t.toNat [] syms rows = some cc) (hr : repFor k n f2 t.toNat cc.1 cc.2.1 cc.2.2 = some r) :
  Calls Tryd.prog 33 #[.pointer (some ⟨g, 0, none⟩), EV ⟨f0, f1, f2, -1, f4⟩ A c] w (PartPost w0 w g Z n r) := by
 have hu54 := Tryd.underlying54; have hu24 := Tryd.underlying24
 unfold EV
 dsimp only
 have HPO0 := Lib.hid hpo; have HCC := Lib.hid hcc; have HT1 := Lib.hid ht1; clear hpo hcc
 have bt : ((t == 0) : Bool) = false := by simp; omega
 have bpp : ((pp == 0) : Bool) = false := by simpa using hpp
 have HPF := Lib.hid hpf; have HT := Lib.hid htab; clear hpf htab
 have HBd := Lib.hid hb; have HB := Lib.hid hB; have HC := Lib.hid hC; have HT0 := Lib.hid ht; have Hc := Lib.hid hc; have HP0 := Lib.hid hp
 clear hb hB hC ht hc hp
 go_enter Tryd.func33, Tryd.ntmps33
 go_upto_region 1 with (fail)
 have HB2 := below_alloc (below_alloc (below_alloc (Below.refl w.heap.size w) (.cells #[.pointer (some ⟨g, 0, none⟩)] 47)) (.cells #[.int .i64 f0, .int .i64 f1, .int .i64 f2, .int .i64 (-1), .slice A f4.length c] 24)) (.cells #[.bool false, .slice none 0 0, .slice none 0 0] 54)
 have KB : (((w.alloc (.cells #[.pointer (some ⟨g, 0, none⟩)] 47)).alloc (.cells #[.int .i64 f0, .int .i64 f1, .int .i64 f2, .int .i64 (-1), .slice A f4.length c] 24)).alloc (.cells #[.bool false, .slice none 0 0, .slice none 0 0] 54)).heap[w.heap.size]? = some (.cells #[.pointer (some ⟨g, 0, none⟩)] 47 (0, 0)) := blk_alloc (blk_alloc (blk_new w _) _) _
 have KE : (((w.alloc (.cells #[.pointer (some ⟨g, 0, none⟩)] 47)).alloc (.cells #[.int .i64 f0, .int .i64 f1, .int .i64 f2, .int .i64 (-1), .slice A f4.length c] 24)).alloc (.cells #[.bool false, .slice none 0 0, .slice none 0 0] 54)).heap[w.heap.size + 1]? = some (.cells #[.int .i64 f0, .int .i64 f1, .int .i64 f2, .int .i64 (-1), .slice A f4.length c] 24 (0, 0)) := by
  have := blk_alloc (blk_new (w.alloc (.cells #[.pointer (some ⟨g, 0, none⟩)] 47)) (.cells #[.int .i64 f0, .int .i64 f1, .int .i64 f2, .int .i64 (-1), .slice A f4.length c] 24)) (.cells #[.bool false, .slice none 0 0, .slice none 0 0] 54); simpa using this
 have KR : (((w.alloc (.cells #[.pointer (some ⟨g, 0, none⟩)] 47)).alloc (.cells #[.int .i64 f0, .int .i64 f1, .int .i64 f2, .int .i64 (-1), .slice A f4.length c] 24)).alloc (.cells #[.bool false, .slice none 0 0, .slice none 0 0] 54)).heap[w.heap.size + 2]? = some (.cells #[.bool false, .slice none 0 0, .slice none 0 0] 54 (0, 0)) := by
  have := blk_new ((w.alloc (.cells #[.pointer (some ⟨g, 0, none⟩)] 47)).alloc (.cells #[.int .i64 f0, .int .i64 f1, .int .i64 f2, .int .i64 (-1), .slice A f4.length c] 24)) (.cells #[.bool false, .slice none 0 0, .slice none 0 0] 54); simpa using this
 generalize ((w.alloc (.cells #[.pointer (some ⟨g, 0, none⟩)] 47)).alloc (.cells #[.int .i64 f0, .int .i64 f1, .int .i64 f2, .int .i64 (-1), .slice A f4.length c] 24)).alloc (.cells #[.bool false, .slice none 0 0, .slice none 0 0] 54) = wA at HB2 KB KE KR ⊢
 have HBA := Lib.hid (below_step HB.out HB2); have HBdA := Lib.hid (HBd.out.below HB2); have HW2 := Lib.hid HB2; have HBS := Lib.hid HB.out.size; have HNZ := Lib.hid HBd.out.new
 have KBA := Lib.hid KB; have KEA := Lib.hid KE; have KRA := Lib.hid KR
 clear KB KE KR HB2 HB HBd
 obtain ⟨ad, A4, c4, eA, y0, y1, y2, y3, y4, hc4, hC4⟩ := Pr.at_T24 HC.out 0 (Int.le_refl _) (by have := HP0.out; omega)
 subst eA
 have q0 := cell_below y0 HBA.out; have q1 := cell_below y1 HBA.out; have q2 := cell_below y2 HBA.out; have q3 := cell_below y3 HBA.out; have q4 := cell_below y4 HBA.out
 clear y0 y1 y2 y3 y4
 have hpo := HPO0.out; have hcc := HCC.out; clear HPO0 HCC
 generalize Pr.rd_T24 f4 0 = y at q0 q1 q2 q3 q4 hc4 hC4 hpo hcc
 have HPO := Lib.hid hpo; have HCC := Lib.hid hcc; clear hpo hcc
 have HC4 := Lib.hid hC4; have Hc4 := Lib.hid hc4; clear hC4 hc4
 have e4 : wA.cell? ⟨w.heap.size + 1, 4, none⟩ = some (.slice (some ad) f4.length c) := (blk_cell KEA.out 4).trans rfl
 have hp1 := HP0.out
 simp only [Int.toNat_zero, Nat.zero_mul, Nat.zero_add] at q0 q1 q2 q3 q4
 have ea0 : ad.add 0 = ad := by cases ad; simp [Addr.add]
 rw [ea0] at q0 q1 q2 q3 q4
 go_upto_region 2 with (fail)
 clear q0 q1 q2 q3 q4 e4 hp1 ea0
 have hby := below_alloc (Below.refl wA.heap.size wA) (.cells #[.int .i64 y.f0, .int .i64 y.f1, .int .i64 y.f2, .int .i64 y.f3, .slice A4 y.f4.length c4] 24)
 have KY : (wA.alloc (.cells #[.int .i64 y.f0, .int .i64 y.f1, .int .i64 y.f2, .int .i64 y.f3, .slice A4 y.f4.length c4] 24)).heap[wA.heap.size]? = some (.cells #[.int .i64 y.f0, .int .i64 y.f1, .int .i64 y.f2, .int .i64 y.f3, .slice A4 y.f4.length c4] 24 (0, 0)) := blk_new wA _
 have HGK := Lib.hid (HW2.out.size); have HBW3 := Lib.hid (Nat.le_refl w.heap.size); have HGR := Lib.hid (blk_lt KRA.out)
 have KBB := Lib.hid (blk_below KBA.out hby); have KEB := Lib.hid (blk_below KEA.out hby); have KRB := Lib.hid (blk_below KRA.out hby); have HBB := Lib.hid (below_step HBA.out hby); have HBdB := Lib.hid (HBdA.out.below hby); have HWB := Lib.hid (below_step HW2.out hby)
 clear hby KBA KEA KRA HBA HBdA HW2
 generalize wA.alloc (.cells #[.int .i64 y.f0, .int .i64 y.f1, .int .i64 y.f2, .int .i64 y.f3, .slice A4 y.f4.length c4] 24) = wB at KY KBB KEB KRB HBB HBdB HWB ⊢
 generalize wA.heap.size = gkid at KY HGK HGR ⊢
 have KYB := Lib.hid KY; clear KY
 have e0 : wB.cell? ⟨w.heap.size + 1, 0, none⟩ = some (.int .i64 f0) := (blk_cell KEB.out 0).trans rfl
 have e1 : wB.cell? ⟨w.heap.size + 1, 1, none⟩ = some (.int .i64 f1) := (blk_cell KEB.out 1).trans rfl
 have e2 : wB.cell? ⟨w.heap.size + 1, 2, none⟩ = some (.int .i64 f2) := (blk_cell KEB.out 2).trans rfl
 have e3 : wB.cell? ⟨w.heap.size + 1, 3, none⟩ = some (.int .i64 (-1)) := (blk_cell KEB.out 3).trans rfl
 have e4 : wB.cell? ⟨w.heap.size + 1, 4, none⟩ = some (.slice (some ad) f4.length c) := (blk_cell KEB.out 4).trans rfl
 go_wp2_with (fail)
 clear e0 e1 e2 e3 e4
 refine (Pr.glush_times.calls f0 f1 f2 (-1) (some ad) c f4 t wB (Kd.C_below HC.out HBB.out) Hc.out HT0.out).mono ?_
 rintro e w2 ⟨rfl, hb2⟩
 have KB2 := Lib.hid (blk_below KBB.out hb2); have KE2 := Lib.hid (blk_below KEB.out hb2); have KR2 := Lib.hid (blk_below KRB.out hb2); have KY2 := Lib.hid (blk_below KYB.out hb2); have HB2 := Lib.hid (below_step HBB.out hb2); have HBd2 := Lib.hid (HBdB.out.below hb2); have HW2 := Lib.hid (below_step HWB.out hb2)
 clear hb2 KBB KEB KRB KYB HBB HBdB HWB
 have bp2 : w2.cell? ⟨w.heap.size, 0, none⟩ = some (.pointer (some ⟨g, 0, none⟩)) := (blk_cell KB2.out 0).trans rfl
 have y0 : w2.cell? ⟨gkid, 0, none⟩ = some (.int .i64 y.f0) := (blk_cell KY2.out 0).trans rfl
 have y1 : w2.cell? ⟨gkid, 1, none⟩ = some (.int .i64 y.f1) := (blk_cell KY2.out 1).trans rfl
 have y2 : w2.cell? ⟨gkid, 2, none⟩ = some (.int .i64 y.f2) := (blk_cell KY2.out 2).trans rfl
 have y3 : w2.cell? ⟨gkid, 3, none⟩ = some (.int .i64 y.f3) := (blk_cell KY2.out 3).trans rfl
 have y4 : w2.cell? ⟨gkid, 4, none⟩ = some (.slice A4 y.f4.length c4) := (blk_cell KY2.out 4).trans rfl
 go_wp2_with (fail)
 clear y0 y1 y2 y3 y4 bp2
 refine (Pr.glush_Positions.calls k y.f0 y.f1 y.f2 y.f3 A4 c4 y.f4 1 pp w2 (Kd.C_below HC4.out HB2.out) Hc4.out HPO.out).mono ?_
 rintro e w3 ⟨rfl, hb2⟩
 have KB3 := Lib.hid (blk_below KB2.out hb2); have KE3 := Lib.hid (blk_below KE2.out hb2); have KR3 := Lib.hid (blk_below KR2.out hb2); have KY3 := Lib.hid (blk_below KY2.out hb2); have HB3 := Lib.hid (below_step HB2.out hb2); have HBd3 := Lib.hid (HBd2.out.below hb2); have HW3 := Lib.hid (below_step HW2.out hb2)
 clear hb2 KB2 KE2 KR2 KY2 HB2 HBd2 HW2
 have bp3 : w3.cell? ⟨w.heap.size, 0, none⟩ = some (.pointer (some ⟨g, 0, none⟩)) := (blk_cell KB3.out 0).trans rfl
 have y0 : w3.cell? ⟨gkid, 0, none⟩ = some (.int .i64 y.f0) := (blk_cell KY3.out 0).trans rfl
 have y1 : w3.cell? ⟨gkid, 1, none⟩ = some (.int .i64 y.f1) := (blk_cell KY3.out 1).trans rfl
 have y2 : w3.cell? ⟨gkid, 2, none⟩ = some (.int .i64 y.f2) := (blk_cell KY3.out 2).trans rfl
 have y3 : w3.cell? ⟨gkid, 3, none⟩ = some (.int .i64 y.f3) := (blk_cell KY3.out 3).trans rfl
 have y4 : w3.cell? ⟨gkid, 4, none⟩ = some (.slice A4 y.f4.length c4) := (blk_cell KY3.out 4).trans rfl
 go_wp2_with (fail)
 clear y0 y1 y2 y3 y4 bp3 bt bpp
 have HN3 := Lib.hid HBd3.out.new; have HK3 := Lib.hid (Kept.of_below HW3.out Z)
 have HLB := Lib.hid (blk_lt KB3.out); have HLE := Lib.hid (blk_lt KE3.out); have HLR := Lib.hid (blk_lt KR3.out); have HLY := Lib.hid (blk_lt KY3.out)
 go_loopg [8, 47] t.toNat (fun kq v8 v47 w' => ∃ (x : Int) (Z' : Nat → Prop) (l : List Pt) (sy : List Int) (rw_ : List (List Int)) (vA : Option Addr) (vc : Nat), v47 = .int .i64 x ∧ v8 = .slice vA l.length vc ∧ Hid (0 ≤ x ∧ x ≤ t) ∧ Hid (kq = (t - x).toNat) ∧ Hid (copies pf y (t - x).toNat l sy rw_ = some cc) ∧ Hid ((l.length : Int) = x) ∧ Hid (Bd w0 w' g Z' n sy rw_) ∧ Hid (∀ k, Z' k → Z k ∨ w3.heap.size ≤ k) ∧ Hid (Below w0.heap.size w0 w') ∧ Hid (Kept w w' Z) ∧ Hid (Kept w3 w' Z) ∧
  Hid (Kd.N kP 54 w' w0.heap.size (fun k => ¬ Z' k ∧ w3.heap.size ≤ k) (.slice vA l.length vc) l))
 case atStart => exact ⟨0, Z, [], syms, rows, none, 0, rfl, rfl, Lib.hid ⟨Int.le_refl _, by have := ht0; omega⟩, Lib.hid (by simp), Lib.hid (by simpa using HCC.out), Lib.hid rfl, HBd3, Lib.hid (fun _ h => .inl h), HB3, HK3, Lib.hid (Kept.refl _ _), Lib.hid (Kd.N_nil _ _ _ _ _)⟩
 case round =>
  obtain ⟨x, Z', l, sy, rw_, vA, vc, rfl, rfl, HX, HQ, HM, HLN, HBdj, HZj, HBj, HKj, HK3j, HNj⟩ := hrel
  by_cases hlt : x < t
  ·have hm := HM.out
   rw [show (t - x).toNat = (t - (x + 1)).toNat + 1 by omega] at hm
   unfold copies at hm
   obtain ⟨p, hp, hm⟩ := Option.bind_eq_some_iff.1 hm
   have HP := Lib.hid hp; have HRE := Lib.hid hm; have HLT := Lib.hid hlt
   have b1 : decide (x < t) = true := decide_eq_true hlt
   clear hp hm hlt HM
   have HNK := Lib.hid (fun b (h1 : w.heap.size ≤ b) => (HNZ.out b h1 : ¬ Z b))
   have KBj := Lib.hid (blk_kept KB3.out HK3j.out (HNK.out _ (Nat.le_refl _))); have KYj := Lib.hid (blk_kept KY3.out HK3j.out (HNK.out _ (Nat.le_trans HBW3.out HGK.out)))
   have bpj : wr.cell? ⟨w.heap.size, 0, none⟩ = some (.pointer (some ⟨g, 0, none⟩)) := (blk_cell KBj.out 0).trans rfl
   have y0 : wr.cell? ⟨gkid, 0, none⟩ = some (.int .i64 y.f0) := (blk_cell KYj.out 0).trans rfl
   have y1 : wr.cell? ⟨gkid, 1, none⟩ = some (.int .i64 y.f1) := (blk_cell KYj.out 1).trans rfl
   have y2 : wr.cell? ⟨gkid, 2, none⟩ = some (.int .i64 y.f2) := (blk_cell KYj.out 2).trans rfl
   have y3 : wr.cell? ⟨gkid, 3, none⟩ = some (.int .i64 y.f3) := (blk_cell KYj.out 3).trans rfl
   have y4 : wr.cell? ⟨gkid, 4, none⟩ = some (.slice A4 y.f4.length c4) := (blk_cell KYj.out 4).trans rfl
   go_wp2_with (fail)
   clear y0 y1 y2 y3 y4 bpj b1 KBj KYj
   (with_reducible refine (HPF.out.call w0 wr g Z' sy rw_ y A4 c4 p HBdj.out HT.out HBj.out HC4.out Hc4.out HP.out).mono ?_); rintro e w4 ⟨Z4, A7, c7, A8, c8, rfl, h7, h8, hbd, hzi, hbb, hkk⟩
   have HWR := Lib.hid (Nat.le_trans HK3j.out.1 (Nat.le_refl _))
   have HZ4 := Lib.hid (fun (q : Nat) (h1 : ¬ Z' q) (h2 : q < wr.heap.size) (h3 : Z4 q) => ((hzi q h3).elim h1 (fun h4 => Nat.lt_irrefl _ (Nat.lt_of_lt_of_le h2 h4)) : False))
   have HZI4 : Hid (∀ q, Z4 q → Z q ∨ w3.heap.size ≤ q) := Lib.hid (fun q h => (hzi q h).elim (HZj.out q) (fun h4 => .inr (Nat.le_trans HWR.out h4)))
   have HN4 := Lib.hid (Kd.N_mono (Kd.N_kept (Kd.N_bound HNj.out) hkk (fun q h1 h2 => h1.1.1 h2)) (ok' := fun q => ¬ Z4 q ∧ w3.heap.size ≤ q) (fun q h => ⟨HZ4.out q h.1.1 h.2, h.1.2⟩))
   have HNL := Lib.hid (fun q (h : some q = (Value.slice vA l.length vc).ownBlock) => (Kd.N_lt HNj.out q h.symm : q < wr.heap.size))
   have HBd4 := Lib.hid hbd; have HB4 := Lib.hid hbb; have HK4 := Lib.hid (HKj.out.then_ hkk (fun q h => (HZj.out q h).elim .inl (fun h4 => .inr (Nat.le_trans HW3.out.size h4)))); have HK34 := Lib.hid (HK3j.out.then_ hkk HZj.out)
   have HFK : Hid (Kd.FK kP w4 (fun q => ¬ Z4 q ∧ wr.heap.size ≤ q) (p.null, p.fst, p.lst) [.bool p.null, .slice A7 p.fst.length c7, .slice A8 p.lst.length c8]) := Lib.hid (kP_mkF (x := (p.null, p.fst, p.lst)) (b5 := 0) (b6 := 0) (V_of_R (Kd.R_mono (Kd.R_bound h7) (fun q h => ⟨h.1, h.2.1⟩))) (V_of_R (Kd.R_mono (Kd.R_bound h8) (fun q h => ⟨h.1, h.2.1⟩))))
   have HSZ4 := Lib.hid hkk.1
   clear hbd hzi hbb hkk h7 h8
   go_wp2_with ((with_reducible refine gate_dst (N := 54) rfl ?_); refine Kd.N_append kP (w0 := w0) (W := w4) w0.heap.size rfl (.tmp 49) (.tmp 53) 89 54 (.agg #[.bool false, .slice none 0 0, .slice none 0 0]) 56 rfl Tryd.underlying89 (by kernel_rfl) rfl (by decide) (by omega) (.slice vA l.length vc) l (p.null, p.fst, p.lst) [.bool p.null, .slice A7 p.fst.length c7, .slice A8 p.lst.length c8] (fun q => ¬ Z4 q ∧ w3.heap.size ≤ q) (fun q => ¬ Z4 q ∧ wr.heap.size ≤ q) rfl rfl HFK.out ?hokp ?hfr HN4.out HB4.out HB4.out.size ?hl ?_; (case hokp => exact fun q hq => ⟨⟨hq.1, Nat.le_trans HWR.out hq.2⟩, fun he => Nat.lt_irrefl _ (Nat.lt_of_lt_of_le (HNL.out q he) hq.2)⟩); (case hfr => exact fun q hq => ⟨HBd4.out.new q hq, Nat.le_trans HWR.out (Nat.le_trans HSZ4.out hq)⟩); (case hl => have h1 := HLN.out; have h2 := HLT.out; have h3 := HT1.out; omega); intro v9 w5 hn9 hb9 hg9 hat9; have HN9 := Lib.hid hn9; have HB9 := Lib.hid hb9; have HG9 := Lib.hid hg9; clear hn9 hb9 hg9 hat9)
   obtain ⟨vB, vd, rfl⟩ := Kd.V_slice (Kd.N_V (base' := 0) HN9.out)
   have hk9 : Kept w4 w5 (fun q => some q = (Value.slice vA l.length vc).ownBlock) := ⟨HG9.out.size, fun i hi hn => HG9.out.block i hi hn⟩
   have HBd5 := Lib.hid (HBd4.out.kept hk9 (fun q h1 h2 => (HN4.out.1 q h2.symm).1 h1)); have HK5 := Lib.hid (HK4.out.then_ hk9 (fun q h => .inr (Nat.le_trans HW3.out.size (HN4.out.1 q h.symm).2))); have HK35 := Lib.hid (HK34.out.then_ hk9 (fun q h => .inr (HN4.out.1 q h.symm).2))
   have hw : wrap64 (x + 1) = x + 1 := by have h1 := HLT.out; have h2 := HT1.out; have h3 := HX.out.1; unfold wrap64; omega
   go_roundg (t - (x + 1)).toNat
   case measure => have h1 := HLT.out; have h2 := HQ.out; have h3 := HX.out.1; omega
   case rel => exact ⟨x + 1, Z4, l ++ [(p.null, p.fst, p.lst)], p.syms, p.rows, vB, vd, by rw [hw], rfl, Lib.hid ⟨by have := HX.out.1; omega, by have := HLT.out; omega⟩, Lib.hid rfl, HRE, Lib.hid (by have := HLN.out; rw [List.length_append, List.length_singleton]; omega), HBd5, HZI4, HB9, HK5, HK35, HN9⟩
  ·have hx : x = t := by have := HX.out.2; omega
   subst hx
   have hm := HM.out
   rw [Int.sub_self] at hm
   unfold copies at hm
   obtain rfl := Option.some.inj hm
   clear hm HM HCC
   dsimp only at hr
   have b1 : decide (x < x) = false := decide_eq_false hlt
   have hl0 : 0 < l.length := by have := HLN.out; omega
   obtain ⟨gl, hgl⟩ : ∃ gl, vA = some ⟨gl, 0, none⟩ := by
    obtain ⟨_, rws, hrl, hR, _⟩ := HNj.out
    obtain ⟨g', c', e', _⟩ := Kd.R_form hR (by omega)
    injection e' with e1 _ _
    exact ⟨g', e1⟩
   subst hgl
   have HNZ2 := Lib.hid (fun b (h1 : w.heap.size ≤ b) (h2 : b < w3.heap.size) (hz : Z' b) => ((HZj.out b hz).elim (HNZ.out b h1) (fun h4 => Nat.lt_irrefl _ (Nat.lt_of_lt_of_le h2 h4)) : False))
   have KBj := Lib.hid (blk_kept KB3.out HK3j.out (HNZ.out _ (Nat.le_refl _))); have KEj := Lib.hid (blk_kept KE3.out HK3j.out (HNZ.out _ (Nat.le_add_right _ 1))); have KRj := Lib.hid (blk_kept KR3.out HK3j.out (HNZ.out _ (Nat.le_add_right _ 2)))
   clear HQ HP0 HT0 HPO HPF HC4 Hc4 HC Hc KB3 KE3 KR3 KY3 HBd3 HB3 HK3 HN3
   have bpj : wr.cell? ⟨w.heap.size, 0, none⟩ = some (.pointer (some ⟨g, 0, none⟩)) := (blk_cell KBj.out 0).trans rfl
   have e2 : wr.cell? ⟨w.heap.size + 1, 2, none⟩ = some (.int .i64 f2) := (blk_cell KEj.out 2).trans rfl
   have e3 : wr.cell? ⟨w.heap.size + 1, 3, none⟩ = some (.int .i64 (-1)) := (blk_cell KEj.out 3).trans rfl
   obtain ⟨adl, L5, d5, L6, d6, eL, p0, p1, p2, hv5, hv6, _⟩ := parts_at (Kd.V_at (Kd.N_V (base' := 0) HNj.out)).2.2 (false, [], []) (x - 1) (by omega) (by have := HLN.out; omega)
   cases eL
   simp only [add_plain] at p0 p1 p2
   unfold repFor at hr
   rw [if_pos (by omega : 0 < x.toNat), show x.toNat - 1 = (x - 1).toNat by omega] at hr
   generalize hq : l.getD (x - 1).toNat (false, [], []) = q at p0 p1 p2 hv5 hv6 hr
   obtain ⟨rows1, hlink, hr⟩ := Option.bind_eq_some_iff.1 hr
   obtain ⟨oo, hrow, hr⟩ := Option.bind_eq_some_iff.1 hr
   obtain rfl := Option.some.inj hr
   have HLK := Lib.hid hlink; have HROW0 := Lib.hid hrow; have HV5 := Lib.hid hv5; have HV6 := Lib.hid hv6
   have i0 : (0 ≤ x - 1) = True := eq_true (by omega)
   have i1 : (x - 1 < (l.length : Int)) = True := eq_true (by have := HLN.out; omega)
   have HXX := Lib.hid (show 0 ≤ x - 1 ∧ x - 1 < (l.length : Int) ∧ l.length ≤ 4096 from ⟨by omega, by have := HLN.out; omega, by have h1 := HLN.out; have h2 := HT1.out; omega⟩)
   have ex1 : (x - 1).toNat = x.toNat - 1 := by omega
   rw [ex1] at p0 p1 p2
   clear hlink hrow hr hv5 hv6 ex1
   go_upto_region 16 with (fail)
   have hby := below_alloc (Below.refl wr.heap.size wr) (.cells #[.bool q.1, .slice L5 q.2.1.length d5, .slice L6 q.2.2.length d6] 54)
   have KL_ : (wr.alloc (.cells #[.bool q.1, .slice L5 q.2.1.length d5, .slice L6 q.2.2.length d6] 54)).heap[wr.heap.size]? = some (.cells #[.bool q.1, .slice L5 q.2.1.length d5, .slice L6 q.2.2.length d6] 54 (0, 0)) := blk_new wr _
   have HBd5 := Lib.hid (HBdj.out.below hby); have HB5 := Lib.hid (below_step HBj.out hby); have HK5 := Lib.hid (HKj.out.below hby); have KB5 := Lib.hid (blk_below KBj.out hby); have KE5 := Lib.hid (blk_below KEj.out hby); have KR5 := Lib.hid (blk_below KRj.out hby); have HN5 := Lib.hid (Kd.N_below HNj.out hby); have HV55 := Lib.hid (Kd.V_below HV5.out hby); have HV65 := Lib.hid (Kd.V_below HV6.out hby); have HQ0 := Lib.hid (cell_below p0 hby); have HQ1 := Lib.hid (cell_below p1 hby); have HQ2 := Lib.hid (cell_below p2 hby)
   clear p0 p1 p2 bpj e2 e3 hby HBdj HBj HKj KBj KEj KRj HNj HV5 HV6 HK3j
   generalize wr.alloc (.cells #[.bool q.1, .slice L5 q.2.1.length d5, .slice L6 q.2.2.length d6] 54) = wa at KL_ HBd5 HB5 HK5 KB5 KE5 KR5 HN5 HV55 HV65 HQ0 HQ1 HQ2 ⊢
   generalize wr.heap.size = glast at KL_ ⊢
   obtain ⟨x0, x1, x2, _, _, _⟩ := cells3 KL_
   have bpj : wa.cell? ⟨w.heap.size, 0, none⟩ = some (.pointer (some ⟨g, 0, none⟩)) := (blk_cell KB5.out 0).trans rfl
   clear KL_
   go_wp2_with (fail)
   clear x0 x1 x2 bpj
   refine (link_calls k w0 wa g Z' n sy rw_ rows1 q.1 q.1 L5 L6 L5 L6 q.2.1.length d5 d6 d5 q.2.2.length d6 q.2.2 q.2.1 HBd5.out HT.out HB5.out (Kd.V_mono HV65.out (fun q h => h.1)) (Kd.V_mono HV55.out (fun q h => h.1)) HLK.out).mono ?_
   rintro e w6 ⟨rfl, hbd, hbb, hkk⟩
   have HZW : Hid (∀ q, Z' q → Z q ∨ w.heap.size ≤ q) := Lib.hid (fun q h => (HZj.out q h).elim .inl (fun h4 => .inr (Nat.le_trans HW3.out.size h4)))
   have HNB : Hid (¬ Z' w.heap.size) := Lib.hid (HNZ2.out _ (Nat.le_refl _) HLB.out); have HNE : Hid (¬ Z' (w.heap.size + 1)) := Lib.hid (HNZ2.out _ (Nat.le_add_right _ 1) HLE.out); have HNR : Hid (¬ Z' (w.heap.size + 2)) := Lib.hid (HNZ2.out _ (Nat.le_add_right _ 2) HLR.out)
   have HBd6 := Lib.hid hbd; have HB6 := Lib.hid hbb; have HK6 := Lib.hid (HK5.out.then_ hkk HZW.out); have KB6 := Lib.hid (blk_kept KB5.out hkk HNB.out); have KE6 := Lib.hid (blk_kept KE5.out hkk HNE.out); have KR6 := Lib.hid (blk_kept KR5.out hkk HNR.out); have HN6 := Lib.hid (Kd.N_kept HN5.out hkk (fun q h1 h2 => h1.1 h2)); have HV56 := Lib.hid (Kd.V_kept HV55.out hkk (fun q h1 h2 => h1.1 h2)); have HV66 := Lib.hid (Kd.V_kept HV65.out hkk (fun q h1 h2 => h1.1 h2))
   have HGLZ : Hid (¬ Z' gl ∧ w3.heap.size ≤ gl) := Lib.hid (HN5.out.1 gl rfl)
   replace HQ0 := Lib.hid (cell_kept HQ0.out hkk HGLZ.out.1); replace HQ1 := Lib.hid (cell_kept HQ1.out hkk HGLZ.out.1); replace HQ2 := Lib.hid (cell_kept HQ2.out hkk HGLZ.out.1)
   clear hbd hbb hkk HBd5 HB5 HK5 KB5 KE5 KR5 HN5 HV55 HV65 HNZ2 HZj
   have e2 : w6.cell? ⟨w.heap.size + 1, 2, none⟩ = some (.int .i64 f2) := (blk_cell KE6.out 2).trans rfl
   have bp6 : w6.cell? ⟨w.heap.size, 0, none⟩ = some (.pointer (some ⟨g, 0, none⟩)) := (blk_cell KB6.out 0).trans rfl
   by_cases hf2 : f2 = 0
   case neg =>
    have hb2 : ((f2 == 0) : Bool) = false := by simpa using hf2
    have HROW := HROW0.out
    rw [if_neg hf2] at HROW
    have HROW_ := Lib.hid HROW; clear HROW HROW0; have HROW := HROW_; clear HROW_
    have HLL : Hid (l.length ≤ 4096) := Lib.hid HXX.out.2.2
    have HLE2 : Hid (l.length = l.length) := Lib.hid rfl
    clear HQ0 HQ1 HQ2 HV56 HV66
    go_wp2_with (fail)
    clear e2 bp6 hb2
    refine (none_calls g n true w6 (by obtain ⟨⟨v1, v2, hbk, _⟩, _⟩ := HBd6.out; exact (blk_cell hbk 0).trans rfl) hn0 hn1).mono ?_
    rintro e w8 ⟨v5, v6, rfl, h5, h6, hb1⟩
    obtain ⟨B5, b5, rfl⟩ := Kd.R_slice h5
    obtain ⟨B6, b6, rfl⟩ := Kd.R_slice h6
    have hbo := below_alloc hb1 (.cells #[.bool true, .slice B5 (freshF n).length b5, .slice B6 (freshF n).length b6] 54)
    have hb2 := below_alloc (Below.refl w8.heap.size w8) (.cells #[.bool true, .slice B5 (freshF n).length b5, .slice B6 (freshF n).length b6] 54)
    have KO_ : (w8.alloc (.cells #[.bool true, .slice B5 (freshF n).length b5, .slice B6 (freshF n).length b6] 54)).heap[w8.heap.size]? = some (.cells #[.bool true, .slice B5 (freshF n).length b5, .slice B6 (freshF n).length b6] 54 (0, 0)) := blk_new w8 _
    have HBdS := Lib.hid (HBd6.out.below hbo); have HBS_ := Lib.hid (below_step HB6.out hbo); have HKS := Lib.hid (HK6.out.below hbo); have KBS := Lib.hid (blk_below KB6.out hbo); have KRS := Lib.hid (blk_below KR6.out hbo); have KES := Lib.hid (blk_below KE6.out hbo)
    have HO5 := Lib.hid (Kd.R_mono (Kd.R_lower (Kd.R_bound (Kd.R_below h5 hb2)) HK6.out.1) (ok' := fun q => ¬ Z' q) (fun q h => HBd6.out.new q h.2.1)); have HO6 := Lib.hid (Kd.R_mono (Kd.R_lower (Kd.R_bound (Kd.R_below h6 hb2)) HK6.out.1) (ok' := fun q => ¬ Z' q) (fun q h => HBd6.out.new q h.2.1))
    have HV := Lib.hid (Kd.V_mono (Kd.V_below (Kd.V_bound (Kd.V_mono (Kd.N_V (base' := 0) HN6.out) (ok' := fun q => ¬ Z' q) (fun q h => h.1))) hbo) (ok' := fun q => ¬ Z' q ∧ q < w8.heap.size) (fun q h => ⟨h.1, Nat.lt_of_lt_of_le h.2 hb1.size⟩))
    have HNGB : Hid (¬ w.heap.size = w8.heap.size) := Lib.hid (fun h => Nat.lt_irrefl _ (h ▸ Nat.lt_of_lt_of_le (blk_lt KB6.out) hb1.size)); have HNGR : Hid (¬ w.heap.size + 2 = w8.heap.size) := Lib.hid (fun h => Nat.lt_irrefl _ (h ▸ Nat.lt_of_lt_of_le (blk_lt KR6.out) hb1.size)); have HNGE : Hid (¬ w.heap.size + 1 = w8.heap.size) := Lib.hid (fun h => Nat.lt_irrefl _ (h ▸ Nat.lt_of_lt_of_le (blk_lt KE6.out) hb1.size))
    have HNGO := Lib.hid (HBd6.out.new _ hb1.size); have HGO0 := Lib.hid (Nat.le_trans HB6.out.size hb1.size); have HGOW := Lib.hid (Nat.le_trans HK6.out.1 hb1.size)
    clear h5 h6 hb1 hbo hb2 HBd6 HB6 HK6 KB6 KR6 KE6
    go_upto_region 20 with (fail)
    generalize w8.alloc (.cells #[.bool true, .slice B5 (freshF n).length b5, .slice B6 (freshF n).length b6] 54) = w9 at KO_ HBdS HBS_ HKS KBS KRS KES HO5 HO6 HV ⊢
    generalize w8.heap.size = go_ at KO_ HV HNGB HNGR HNGE HNGO HGO0 HGOW ⊢
    have KO := Lib.hid KO_; clear KO_ KES HNGE
    go_wp2_with (fail)
    go_loopg [80] l.length (fun kq vX w' => ∃ (i : Int) (o : Pt) (rwi : List (List Int)) (A5 : Option Addr) (c5 : Nat) (A6 : Option Addr) (c6 : Nat), vX = .int .i64 i ∧ Hid (0 ≤ i ∧ i ≤ l.length) ∧ Hid (kq = l.length - i.toNat) ∧ Hid (rowPts k (l.drop i.toNat) o rwi = some (oo)) ∧ Hid (Bd w0 w' g Z' n sy rwi) ∧ Hid (Below w0.heap.size w0 w') ∧ Hid (Kept w w' Z) ∧ Hid (Kept w9 w' (fun q => Z' q ∨ q = go_)) ∧
     Hid (w'.heap[go_]? = some (.cells #[.bool o.1, .slice A5 o.2.1.length c5, .slice A6 o.2.2.length c6] 54 (0, 0))) ∧ Hid (Kd.R KU 77 w' w.heap.size (fun k => ¬ Z' k) (.slice A5 o.2.1.length c5) o.2.1) ∧ Hid (Kd.R KU 77 w' w.heap.size (fun k => ¬ Z' k) (.slice A6 o.2.2.length c6) o.2.2))
    case atStart => exact ⟨0, fresh0 n true, rows1, B5, b5, B6, b6, rfl, Lib.hid ⟨Int.le_refl _, by omega⟩, Lib.hid rfl, HROW, HBdS, HBS_, HKS, Lib.hid (Kept.refl _ _), KO, HO5, HO6⟩
    case round =>
     obtain ⟨i, o, rwi, C5, h5_, C6, h6_, rfl, HIX, HIQ, HIM, HBdi, HBi, HKi, HK0i, KOi, HO5i, HO6i⟩ := hrel
     have KBi := Lib.hid (blk_kept KBS.out HK0i.out (fun h => h.elim HNB.out HNGB.out)); have KRi := Lib.hid (blk_kept KRS.out HK0i.out (fun h => h.elim HNR.out HNGR.out))
     by_cases hlt : i < l.length
     ·have hm := HIM.out
      obtain ⟨adl, L5, d5, L6, d6, eL, p0, p1, p2, hv5, hv6, _⟩ := parts_at (Kd.V_at (Kd.V_kept HV.out HK0i.out (fun q h1 h2 => h2.elim h1.1 (fun h3 => Nat.lt_irrefl _ (h3 ▸ h1.2))))).2.2 (false, [], []) i HIX.out.1 (by have := HLE2.out; omega)
      cases eL
      simp only [add_plain] at p0 p1 p2
      rw [pt_drop l i HIX.out.1 (by have := HLE2.out; omega)] at hm
      unfold rowPts at hm
      obtain ⟨o2, ho2, hm⟩ := Option.bind_eq_some_iff.1 hm
      generalize l.getD i.toNat (false, [], []) = q at hm ho2 p0 p1 p2 hv5 hv6
      have HRE := Lib.hid hm; have HOO := Lib.hid ho2; have HLT := Lib.hid hlt; have HV5 := Lib.hid hv5; have HV6 := Lib.hid hv6
      have b2 : decide (i < (l.length : Int)) = true := decide_eq_true hlt
      have b3 : (0 ≤ i) = True := eq_true HIX.out.1
      have b4 : (i < (l.length : Int)) = True := eq_true hlt
      clear hm ho2 hlt hv5 hv6 HIM
      go_upto_region 23 with (fail)
      clear p0 p1 p2 b2 b3 b4
      have hby := below_alloc (Below.refl wr.heap.size wr) (.cells #[.bool q.1, .slice L5 q.2.1.length d5, .slice L6 q.2.2.length d6] 54)
      have KY_ : (wr.alloc (.cells #[.bool q.1, .slice L5 q.2.1.length d5, .slice L6 q.2.2.length d6] 54)).heap[wr.heap.size]? = some (.cells #[.bool q.1, .slice L5 q.2.1.length d5, .slice L6 q.2.2.length d6] 54 (0, 0)) := blk_new wr _
      have HBd3_ := Lib.hid (HBdi.out.below hby); have HB3_ := Lib.hid (below_step HBi.out hby); have HK3_ := Lib.hid (HKi.out.below hby); have HK03_ := Lib.hid (HK0i.out.below hby); have KO3_ := Lib.hid (blk_below KOi.out hby); have KB3_ := Lib.hid (blk_below KBi.out hby); have H53_ := Lib.hid (Kd.R_below HO5i.out hby); have H63_ := Lib.hid (Kd.R_below HO6i.out hby); have HV53 := Lib.hid (Kd.V_below HV5.out hby); have HV63 := Lib.hid (Kd.V_below HV6.out hby)
      clear hby HBdi HBi HKi HK0i KOi HO5i HO6i HV5 HV6 KBi KRi
      generalize wr.alloc (.cells #[.bool q.1, .slice L5 q.2.1.length d5, .slice L6 q.2.2.length d6] 54) = wx at KY_ HBd3_ HB3_ HK3_ HK03_ KO3_ KB3_ H53_ H63_ HV53 HV63 ⊢
      generalize wr.heap.size = gx at KY_ ⊢
      obtain ⟨x0, x1, x2, _, _, _⟩ := cells3 KY_
      obtain ⟨p0, p1, p2, _, _, _⟩ := cells3 KO3_.out
      have bpx : wx.cell? ⟨w.heap.size, 0, none⟩ = some (.pointer (some ⟨g, 0, none⟩)) := (blk_cell KB3_.out 0).trans rfl
      clear KY_ KB3_
      go_wp2_with (fail)
      clear x0 x1 x2 p0 p1 p2 bpx
      (with_reducible refine (seq_pt k w0 wx g Z' n sy rwi o q o2 C5 C6 L5 L6 h5_ h6_ d5 d6 HBd3_.out HT.out HB3_.out (V_of_R H53_.out) (V_of_R H63_.out) (Kd.V_mono HV53.out (fun q h => h.1)) (Kd.V_mono HV63.out (fun q h => h.1)) HOO.out).mono ?_); rintro e wy ⟨A9, c9, A10, c10, rfl, h9, h10, hbd, hbb, hkk⟩
      have HKO : Hid (wy.heap[go_]? = some (.cells #[.bool o.1, .slice C5 o.2.1.length h5_, .slice C6 o.2.2.length h6_] 54 (0, 0))) := Lib.hid (blk_kept KO3_.out hkk HNGO.out)
      have HNX := Lib.hid (HBd3_.out.new)
      have H9y := Lib.hid (Kd.R_lower (Kd.R_mono h9 (ok' := fun q => ¬ Z' q) (fun q h => HNX.out q h)) HK3_.out.1); have H10y := Lib.hid (Kd.R_lower (Kd.R_mono h10 (ok' := fun q => ¬ Z' q) (fun q h => HNX.out q h)) HK3_.out.1)
      have HBdy := Lib.hid hbd; have HBy := Lib.hid hbb; have HKy := Lib.hid (HK3_.out.then_ hkk (fun q h => (HZW.out q h))); have HK0y := Lib.hid (HK03_.out.then_ hkk (fun q h => .inl (.inl h)))
      clear hbd hbb hkk h9 h10 KO3_ H53_ H63_ HBd3_ HB3_ HK3_ HK03_
      obtain ⟨s0, s1, s2, u0, u1, u2⟩ := cells3 HKO.out
      go_upto_region 24 with (fail)
      clear s0 s1 s2 u0 u1 u2
      have hs := st3_self (w := wy) (g := go_) (.bool o2.1.1) (.slice A9 o2.1.2.1.length c9) (.slice A10 o2.1.2.2.length c10)
      have KP6 : (st3 wy go_ (.bool o2.1.1) (.slice A9 o2.1.2.1.length c9) (.slice A10 o2.1.2.2.length c10)).heap[go_]? = some (.cells #[.bool o2.1.1, .slice A9 o2.1.2.1.length c9, .slice A10 o2.1.2.2.length c10] 54 (0, 0)) := st3_blk HKO.out
      have h96 := Kd.R_mono (Kd.R_kept (Kd.R_types H9y.out HKO.out (by decide)) hs (fun q h1 h2 => h1.2 h2)) (ok' := fun q => ¬ Z' q) (fun q h => h.1); have h106 := Kd.R_mono (Kd.R_kept (Kd.R_types H10y.out HKO.out (by decide)) hs (fun q h1 h2 => h1.2 h2)) (ok' := fun q => ¬ Z' q) (fun q h => h.1)
      have hbd6 := HBdy.out.kept hs (fun q h1 h2 => HNGO.out (h2 ▸ h1)); have hb6 := st3_below (g := go_) HBy.out HGO0.out (.bool o2.1.1) (.slice A9 o2.1.2.1.length c9) (.slice A10 o2.1.2.2.length c10); have hk6 := st3_kept (g := go_) HKy.out (.inr HGOW.out) (.bool o2.1.1) (.slice A9 o2.1.2.1.length c9) (.slice A10 o2.1.2.2.length c10); have hk06 := st3_kept (g := go_) HK0y.out (.inl (.inr rfl)) (.bool o2.1.1) (.slice A9 o2.1.2.1.length c9) (.slice A10 o2.1.2.2.length c10)
      have hw : wrap64 (i + 1) = i + 1 := by have h1 := HLT.out; have h2 := HLL.out; have h3 := HIX.out.1; unfold wrap64; omega
      generalize hw6 : st3 wy go_ (.bool o2.1.1) (.slice A9 o2.1.2.1.length c9) (.slice A10 o2.1.2.2.length c10) = wz at KP6 h96 h106 hbd6 hb6 hk6 hk06
      have hw6' : ((wy.setCell ⟨go_, 0, none⟩ (.bool o2.1.1)).setCell ⟨go_, 1, none⟩ (.slice A9 o2.1.2.1.length c9)).setCell ⟨go_, 2, none⟩ (.slice A10 o2.1.2.2.length c10) = wz := hw6
      rw [hw6']; clear hw6 hw6' hs
      have HKP6 := Lib.hid KP6; have H96 := Lib.hid h96; have H106 := Lib.hid h106; have HBd6 := Lib.hid hbd6; have HB6 := Lib.hid hb6; have HK6 := Lib.hid hk6; have HK06 := Lib.hid hk06
      clear KP6 h96 h106 hbd6 hb6 hk6 hk06
      go_wp2_with (fail)
      go_roundg (l.length - (i + 1).toNat)
      case measure => have h1 := HLT.out; have h2 := HIQ.out; have h3 := HIX.out.1; omega
      case rel => exact ⟨i + 1, o2.1, o2.2, A9, c9, A10, c10, by rw [hw], Lib.hid ⟨by have := HIX.out.1; omega, by have := HLT.out; omega⟩, Lib.hid rfl, HRE, HBd6, HB6, HK6, HK06, HKP6, H96, H106⟩
     ·have hx : i = l.length := by have := HIX.out.2; omega
      subst hx
      have hm := HIM.out
      rw [Int.toNat_natCast, List.drop_of_length_le (by first | exact Nat.le_refl _ | exact Nat.le_of_eq HLE2.out)] at hm
      unfold rowPts at hm
      obtain rfl := Option.some.inj hm
      clear hm HIM
      have b2 : decide ((l.length : Int) < (l.length : Int)) = false := decide_eq_false hlt
      obtain ⟨p0, p1, p2, _, _, _⟩ := cells3 KOi.out
      obtain ⟨r0, r1, r2, u0, u1, u2⟩ := cells3 KRi.out
      go_wp2_with (fail)
      refine bodyPost_ret (results_cell_row rfl _ _ (w.heap.size + 2) 54 #[.bool o.1, .slice C5 o.2.1.length h5_, .slice C6 o.2.2.length h6_] (0, 0) _ rfl (st3_blk KRi.out) Tryd.underlying54 rfl (by kernel_rfl)) rfl ?_
      have hs := st3_self (w := wr) (g := w.heap.size + 2) (.bool o.1) (.slice C5 o.2.1.length h5_) (.slice C6 o.2.2.length h6_)
      have V5 := Kd.R_mono (Kd.R_kept (Kd.R_types HO5i.out KRi.out (by decide)) hs (fun k h1 h2 => h1.2 h2)) (ok' := fun k => ¬ Z' k) (fun k h => h.1)
      have V6 := Kd.R_mono (Kd.R_kept (Kd.R_types HO6i.out KRi.out (by decide)) hs (fun k h1 h2 => h1.2 h2)) (ok' := fun k => ¬ Z' k) (fun k h => h.1)
      exact ⟨Z', C5, h5_, C6, h6_, rfl, V5, V6, HBdi.out.kept hs (fun q h1 h2 => HNR.out (h2 ▸ h1)), HZW.out, st3_below HBi.out (Nat.le_trans HBS.out (Nat.le_add_right _ 2)) _ _ _, st3_kept HKi.out (.inr (Nat.le_add_right _ 2)) _ _ _⟩
   case pos =>
    have hb2 : ((f2 == 0) : Bool) = true := by simpa using hf2
    have HROW := HROW0.out
    rw [if_pos hf2] at HROW
    have HLL : Hid (l.length ≤ 4096) := Lib.hid HXX.out.2.2
    obtain ⟨cE, hcl, hF, hcc, hfr⟩ := Kd.N_elem HN6.out (false, [], []) (x - 1) HXX.out.1 HXX.out.2.1
    rw [hq] at hF
    obtain ⟨E5, g5, E6, g6, rfl, ve5, ve6⟩ := kP_openF hF
    have HF := Lib.hid (kP_mkF (x := (true, q.2)) (b5 := 0) (b6 := 0) ve5 ve6)
    have HCC := Lib.hid hcc
    clear hcl hF hcc hfr ve5 ve6 HQ0 HQ1 HQ2 HV56 HV66 hq HROW0
    go_wp2_with ((with_reducible refine gate_store (t := 4) (p := 75) rfl ?_); refine Kd.N_store kP (w0 := w0) (W := w6) w0.heap.size rfl rfl 4 (.tmp 75) (.const (.bool true)) rfl 54 (x - 1) 0 l (true, q.2) (.bool true) [.bool true] [.bool q.1, .slice E5 q.2.1.length g5, .slice E6 q.2.2.length g6] (fun q => ¬ Z' q ∧ w3.heap.size ≤ q) (fun q => (¬ Z' q ∧ w3.heap.size ≤ q) ∧ q ≠ gl) rfl ?hoff rfl rfl (by kernel_rfl) ?h1 HN6.out ?h0 ?hi rfl ?hcc (by decide) ?hM (fun _ h => h) HB6.out ?_; (case hoff => rw [kP_sz]; have := HXX.out.1; omega); (case h1 => intro v hv; rw [List.mem_singleton.1 hv]; rfl); (case h0 => exact HXX.out.1); (case hi => exact HXX.out.2.1); (case hcc => exact HCC.out); (case hM => exact HF.out); intro w7 hn hb hg; have HN7 := Lib.hid hn; have HB7 := Lib.hid hb; have HG7 := Lib.hid hg; clear hn hb hg; have HK67 := Lib.hid ((⟨HG7.out.size, fun i hi hn => HG7.out.block i hi (fun h => hn (Option.some.inj h))⟩ : Kept w6 w7 (fun q => q = gl))); have HBd7 := Lib.hid (HBd6.out.kept HK67.out (fun q h1 h2 => HGLZ.out.1 (h2 ▸ h1))); have HK7 := Lib.hid (HK6.out.then_ HK67.out (fun q h => .inr (h ▸ Nat.le_trans HW3.out.size HGLZ.out.2))); have KB7 := Lib.hid (blk_kept KB6.out HK67.out (fun h => Nat.lt_irrefl _ (Nat.lt_of_lt_of_le (h ▸ HLB.out) HGLZ.out.2))); have KE7 := Lib.hid (blk_kept KE6.out HK67.out (fun h => Nat.lt_irrefl _ (Nat.lt_of_lt_of_le (h ▸ HLE.out) HGLZ.out.2))); have KR7 := Lib.hid (blk_kept KR6.out HK67.out (fun h => Nat.lt_irrefl _ (Nat.lt_of_lt_of_le (h ▸ HLR.out) HGLZ.out.2))); have bp7 : w7.cell? ⟨w.heap.size, 0, none⟩ = some (.pointer (some ⟨g, 0, none⟩)) := (blk_cell KB7.out 0).trans rfl)
    clear e2 bp6 bp7 hb2 HBd6 HB6 HK6 KB6 KE6 KR6 HN6 HF HCC
    have HLE2_ : Hid ((l.set (x - 1).toNat (true, q.2)).length = l.length) := Lib.hid (by simp)
    generalize l.set (x - 1).toNat (true, q.2) = l2 at HROW HN7 HLE2_
    have HROW_ := Lib.hid HROW; clear HROW; have HROW := HROW_; clear HROW_; have HLE2 := HLE2_; clear HLE2_
    refine (none_calls g n true w7 (by obtain ⟨⟨v1, v2, hbk, _⟩, _⟩ := HBd7.out; exact (blk_cell hbk 0).trans rfl) hn0 hn1).mono ?_
    rintro e w8 ⟨v5, v6, rfl, h5, h6, hb1⟩
    obtain ⟨B5, b5, rfl⟩ := Kd.R_slice h5
    obtain ⟨B6, b6, rfl⟩ := Kd.R_slice h6
    have hbo := below_alloc hb1 (.cells #[.bool true, .slice B5 (freshF n).length b5, .slice B6 (freshF n).length b6] 54)
    have hb2 := below_alloc (Below.refl w8.heap.size w8) (.cells #[.bool true, .slice B5 (freshF n).length b5, .slice B6 (freshF n).length b6] 54)
    have KO_ : (w8.alloc (.cells #[.bool true, .slice B5 (freshF n).length b5, .slice B6 (freshF n).length b6] 54)).heap[w8.heap.size]? = some (.cells #[.bool true, .slice B5 (freshF n).length b5, .slice B6 (freshF n).length b6] 54 (0, 0)) := blk_new w8 _
    have HBdS := Lib.hid (HBd7.out.below hbo); have HBS_ := Lib.hid (below_step HB7.out hbo); have HKS := Lib.hid (HK7.out.below hbo); have KBS := Lib.hid (blk_below KB7.out hbo); have KRS := Lib.hid (blk_below KR7.out hbo); have KES := Lib.hid (blk_below KE7.out hbo)
    have HO5 := Lib.hid (Kd.R_mono (Kd.R_lower (Kd.R_bound (Kd.R_below h5 hb2)) HK7.out.1) (ok' := fun q => ¬ Z' q) (fun q h => HBd7.out.new q h.2.1)); have HO6 := Lib.hid (Kd.R_mono (Kd.R_lower (Kd.R_bound (Kd.R_below h6 hb2)) HK7.out.1) (ok' := fun q => ¬ Z' q) (fun q h => HBd7.out.new q h.2.1))
    have HV := Lib.hid (Kd.V_mono (Kd.V_below (Kd.V_bound (Kd.V_mono (V_len2 (by first | rfl | exact HLE2.out) (Kd.N_V (base' := 0) HN7.out)) (ok' := fun q => ¬ Z' q) (fun q h => h.1))) hbo) (ok' := fun q => ¬ Z' q ∧ q < w8.heap.size) (fun q h => ⟨h.1, Nat.lt_of_lt_of_le h.2 hb1.size⟩))
    have HNGB : Hid (¬ w.heap.size = w8.heap.size) := Lib.hid (fun h => Nat.lt_irrefl _ (h ▸ Nat.lt_of_lt_of_le (blk_lt KB7.out) hb1.size)); have HNGR : Hid (¬ w.heap.size + 2 = w8.heap.size) := Lib.hid (fun h => Nat.lt_irrefl _ (h ▸ Nat.lt_of_lt_of_le (blk_lt KR7.out) hb1.size)); have HNGE : Hid (¬ w.heap.size + 1 = w8.heap.size) := Lib.hid (fun h => Nat.lt_irrefl _ (h ▸ Nat.lt_of_lt_of_le (blk_lt KE7.out) hb1.size))
    have HNGO := Lib.hid (HBd7.out.new _ hb1.size); have HGO0 := Lib.hid (Nat.le_trans HB7.out.size hb1.size); have HGOW := Lib.hid (Nat.le_trans HK7.out.1 hb1.size)
    clear h5 h6 hb1 hbo hb2 HBd7 HB7 HK7 KB7 KR7 KE7
    go_upto_region 20 with (fail)
    generalize w8.alloc (.cells #[.bool true, .slice B5 (freshF n).length b5, .slice B6 (freshF n).length b6] 54) = w9 at KO_ HBdS HBS_ HKS KBS KRS KES HO5 HO6 HV ⊢
    generalize w8.heap.size = go_ at KO_ HV HNGB HNGR HNGE HNGO HGO0 HGOW ⊢
    have KO := Lib.hid KO_; clear KO_ KES HNGE
    go_wp2_with (fail)
    go_loopg [80] l.length (fun kq vX w' => ∃ (i : Int) (o : Pt) (rwi : List (List Int)) (A5 : Option Addr) (c5 : Nat) (A6 : Option Addr) (c6 : Nat), vX = .int .i64 i ∧ Hid (0 ≤ i ∧ i ≤ l.length) ∧ Hid (kq = l.length - i.toNat) ∧ Hid (rowPts k (l2.drop i.toNat) o rwi = some (oo)) ∧ Hid (Bd w0 w' g Z' n sy rwi) ∧ Hid (Below w0.heap.size w0 w') ∧ Hid (Kept w w' Z) ∧ Hid (Kept w9 w' (fun q => Z' q ∨ q = go_)) ∧
     Hid (w'.heap[go_]? = some (.cells #[.bool o.1, .slice A5 o.2.1.length c5, .slice A6 o.2.2.length c6] 54 (0, 0))) ∧ Hid (Kd.R KU 77 w' w.heap.size (fun k => ¬ Z' k) (.slice A5 o.2.1.length c5) o.2.1) ∧ Hid (Kd.R KU 77 w' w.heap.size (fun k => ¬ Z' k) (.slice A6 o.2.2.length c6) o.2.2))
    case atStart => exact ⟨0, fresh0 n true, rows1, B5, b5, B6, b6, rfl, Lib.hid ⟨Int.le_refl _, by omega⟩, Lib.hid rfl, HROW, HBdS, HBS_, HKS, Lib.hid (Kept.refl _ _), KO, HO5, HO6⟩
    case round =>
     obtain ⟨i, o, rwi, C5, h5_, C6, h6_, rfl, HIX, HIQ, HIM, HBdi, HBi, HKi, HK0i, KOi, HO5i, HO6i⟩ := hrel
     have KBi := Lib.hid (blk_kept KBS.out HK0i.out (fun h => h.elim HNB.out HNGB.out)); have KRi := Lib.hid (blk_kept KRS.out HK0i.out (fun h => h.elim HNR.out HNGR.out))
     by_cases hlt : i < l.length
     ·have hm := HIM.out
      obtain ⟨adl, L5, d5, L6, d6, eL, p0, p1, p2, hv5, hv6, _⟩ := parts_at (Kd.V_at (Kd.V_kept HV.out HK0i.out (fun q h1 h2 => h2.elim h1.1 (fun h3 => Nat.lt_irrefl _ (h3 ▸ h1.2))))).2.2 (false, [], []) i HIX.out.1 (by have := HLE2.out; omega)
      cases eL
      simp only [add_plain] at p0 p1 p2
      rw [pt_drop l2 i HIX.out.1 (by have := HLE2.out; omega)] at hm
      unfold rowPts at hm
      obtain ⟨o2, ho2, hm⟩ := Option.bind_eq_some_iff.1 hm
      generalize l2.getD i.toNat (false, [], []) = q at hm ho2 p0 p1 p2 hv5 hv6
      have HRE := Lib.hid hm; have HOO := Lib.hid ho2; have HLT := Lib.hid hlt; have HV5 := Lib.hid hv5; have HV6 := Lib.hid hv6
      have b2 : decide (i < (l.length : Int)) = true := decide_eq_true hlt
      have b3 : (0 ≤ i) = True := eq_true HIX.out.1
      have b4 : (i < (l.length : Int)) = True := eq_true hlt
      clear hm ho2 hlt hv5 hv6 HIM
      go_upto_region 23 with (fail)
      clear p0 p1 p2 b2 b3 b4
      have hby := below_alloc (Below.refl wr.heap.size wr) (.cells #[.bool q.1, .slice L5 q.2.1.length d5, .slice L6 q.2.2.length d6] 54)
      have KY_ : (wr.alloc (.cells #[.bool q.1, .slice L5 q.2.1.length d5, .slice L6 q.2.2.length d6] 54)).heap[wr.heap.size]? = some (.cells #[.bool q.1, .slice L5 q.2.1.length d5, .slice L6 q.2.2.length d6] 54 (0, 0)) := blk_new wr _
      have HBd3_ := Lib.hid (HBdi.out.below hby); have HB3_ := Lib.hid (below_step HBi.out hby); have HK3_ := Lib.hid (HKi.out.below hby); have HK03_ := Lib.hid (HK0i.out.below hby); have KO3_ := Lib.hid (blk_below KOi.out hby); have KB3_ := Lib.hid (blk_below KBi.out hby); have H53_ := Lib.hid (Kd.R_below HO5i.out hby); have H63_ := Lib.hid (Kd.R_below HO6i.out hby); have HV53 := Lib.hid (Kd.V_below HV5.out hby); have HV63 := Lib.hid (Kd.V_below HV6.out hby)
      clear hby HBdi HBi HKi HK0i KOi HO5i HO6i HV5 HV6 KBi KRi
      generalize wr.alloc (.cells #[.bool q.1, .slice L5 q.2.1.length d5, .slice L6 q.2.2.length d6] 54) = wx at KY_ HBd3_ HB3_ HK3_ HK03_ KO3_ KB3_ H53_ H63_ HV53 HV63 ⊢
      generalize wr.heap.size = gx at KY_ ⊢
      obtain ⟨x0, x1, x2, _, _, _⟩ := cells3 KY_
      obtain ⟨p0, p1, p2, _, _, _⟩ := cells3 KO3_.out
      have bpx : wx.cell? ⟨w.heap.size, 0, none⟩ = some (.pointer (some ⟨g, 0, none⟩)) := (blk_cell KB3_.out 0).trans rfl
      clear KY_ KB3_
      go_wp2_with (fail)
      clear x0 x1 x2 p0 p1 p2 bpx
      (with_reducible refine (seq_pt k w0 wx g Z' n sy rwi o q o2 C5 C6 L5 L6 h5_ h6_ d5 d6 HBd3_.out HT.out HB3_.out (V_of_R H53_.out) (V_of_R H63_.out) (Kd.V_mono HV53.out (fun q h => h.1)) (Kd.V_mono HV63.out (fun q h => h.1)) HOO.out).mono ?_); rintro e wy ⟨A9, c9, A10, c10, rfl, h9, h10, hbd, hbb, hkk⟩
      have HKO : Hid (wy.heap[go_]? = some (.cells #[.bool o.1, .slice C5 o.2.1.length h5_, .slice C6 o.2.2.length h6_] 54 (0, 0))) := Lib.hid (blk_kept KO3_.out hkk HNGO.out)
      have HNX := Lib.hid (HBd3_.out.new)
      have H9y := Lib.hid (Kd.R_lower (Kd.R_mono h9 (ok' := fun q => ¬ Z' q) (fun q h => HNX.out q h)) HK3_.out.1); have H10y := Lib.hid (Kd.R_lower (Kd.R_mono h10 (ok' := fun q => ¬ Z' q) (fun q h => HNX.out q h)) HK3_.out.1)
      have HBdy := Lib.hid hbd; have HBy := Lib.hid hbb; have HKy := Lib.hid (HK3_.out.then_ hkk (fun q h => (HZW.out q h))); have HK0y := Lib.hid (HK03_.out.then_ hkk (fun q h => .inl (.inl h)))
      clear hbd hbb hkk h9 h10 KO3_ H53_ H63_ HBd3_ HB3_ HK3_ HK03_
      obtain ⟨s0, s1, s2, u0, u1, u2⟩ := cells3 HKO.out
      go_upto_region 24 with (fail)
      clear s0 s1 s2 u0 u1 u2
      have hs := st3_self (w := wy) (g := go_) (.bool o2.1.1) (.slice A9 o2.1.2.1.length c9) (.slice A10 o2.1.2.2.length c10)
      have KP6 : (st3 wy go_ (.bool o2.1.1) (.slice A9 o2.1.2.1.length c9) (.slice A10 o2.1.2.2.length c10)).heap[go_]? = some (.cells #[.bool o2.1.1, .slice A9 o2.1.2.1.length c9, .slice A10 o2.1.2.2.length c10] 54 (0, 0)) := st3_blk HKO.out
      have h96 := Kd.R_mono (Kd.R_kept (Kd.R_types H9y.out HKO.out (by decide)) hs (fun q h1 h2 => h1.2 h2)) (ok' := fun q => ¬ Z' q) (fun q h => h.1); have h106 := Kd.R_mono (Kd.R_kept (Kd.R_types H10y.out HKO.out (by decide)) hs (fun q h1 h2 => h1.2 h2)) (ok' := fun q => ¬ Z' q) (fun q h => h.1)
      have hbd6 := HBdy.out.kept hs (fun q h1 h2 => HNGO.out (h2 ▸ h1)); have hb6 := st3_below (g := go_) HBy.out HGO0.out (.bool o2.1.1) (.slice A9 o2.1.2.1.length c9) (.slice A10 o2.1.2.2.length c10); have hk6 := st3_kept (g := go_) HKy.out (.inr HGOW.out) (.bool o2.1.1) (.slice A9 o2.1.2.1.length c9) (.slice A10 o2.1.2.2.length c10); have hk06 := st3_kept (g := go_) HK0y.out (.inl (.inr rfl)) (.bool o2.1.1) (.slice A9 o2.1.2.1.length c9) (.slice A10 o2.1.2.2.length c10)
      have hw : wrap64 (i + 1) = i + 1 := by have h1 := HLT.out; have h2 := HLL.out; have h3 := HIX.out.1; unfold wrap64; omega
      generalize hw6 : st3 wy go_ (.bool o2.1.1) (.slice A9 o2.1.2.1.length c9) (.slice A10 o2.1.2.2.length c10) = wz at KP6 h96 h106 hbd6 hb6 hk6 hk06
      have hw6' : ((wy.setCell ⟨go_, 0, none⟩ (.bool o2.1.1)).setCell ⟨go_, 1, none⟩ (.slice A9 o2.1.2.1.length c9)).setCell ⟨go_, 2, none⟩ (.slice A10 o2.1.2.2.length c10) = wz := hw6
      rw [hw6']; clear hw6 hw6' hs
      have HKP6 := Lib.hid KP6; have H96 := Lib.hid h96; have H106 := Lib.hid h106; have HBd6 := Lib.hid hbd6; have HB6 := Lib.hid hb6; have HK6 := Lib.hid hk6; have HK06 := Lib.hid hk06
      clear KP6 h96 h106 hbd6 hb6 hk6 hk06
      go_wp2_with (fail)
      go_roundg (l.length - (i + 1).toNat)
      case measure => have h1 := HLT.out; have h2 := HIQ.out; have h3 := HIX.out.1; omega
      case rel => exact ⟨i + 1, o2.1, o2.2, A9, c9, A10, c10, by rw [hw], Lib.hid ⟨by have := HIX.out.1; omega, by have := HLT.out; omega⟩, Lib.hid rfl, HRE, HBd6, HB6, HK6, HK06, HKP6, H96, H106⟩
     ·have hx : i = l.length := by have := HIX.out.2; omega
      subst hx
      have hm := HIM.out
      rw [Int.toNat_natCast, List.drop_of_length_le (by first | exact Nat.le_refl _ | exact Nat.le_of_eq HLE2.out)] at hm
      unfold rowPts at hm
      obtain rfl := Option.some.inj hm
      clear hm HIM
      have b2 : decide ((l.length : Int) < (l.length : Int)) = false := decide_eq_false hlt
      obtain ⟨p0, p1, p2, _, _, _⟩ := cells3 KOi.out
      obtain ⟨r0, r1, r2, u0, u1, u2⟩ := cells3 KRi.out
      go_wp2_with (fail)
      refine bodyPost_ret (results_cell_row rfl _ _ (w.heap.size + 2) 54 #[.bool o.1, .slice C5 o.2.1.length h5_, .slice C6 o.2.2.length h6_] (0, 0) _ rfl (st3_blk KRi.out) Tryd.underlying54 rfl (by kernel_rfl)) rfl ?_
      have hs := st3_self (w := wr) (g := w.heap.size + 2) (.bool o.1) (.slice C5 o.2.1.length h5_) (.slice C6 o.2.2.length h6_)
      have V5 := Kd.R_mono (Kd.R_kept (Kd.R_types HO5i.out KRi.out (by decide)) hs (fun k h1 h2 => h1.2 h2)) (ok' := fun k => ¬ Z' k) (fun k h => h.1)
      have V6 := Kd.R_mono (Kd.R_kept (Kd.R_types HO6i.out KRi.out (by decide)) hs (fun k h1 h2 => h1.2 h2)) (ok' := fun k => ¬ Z' k) (fun k h => h.1)
      exact ⟨Z', C5, h5_, C6, h6_, rfl, V5, V6, HBdi.out.kept hs (fun q h1 h2 => HNR.out (h2 ▸ h1)), HZW.out, st3_below HBi.out (Nat.le_trans HBS.out (Nat.le_add_right _ 2)) _ _ _, st3_kept HKi.out (.inr (Nat.le_add_right _ 2)) _ _ _⟩
end Go.Proofs.YthocjdlcopmhiaaDoor.G
