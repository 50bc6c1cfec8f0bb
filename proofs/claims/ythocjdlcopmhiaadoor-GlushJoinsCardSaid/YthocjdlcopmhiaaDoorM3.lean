import Derived.Test.YthocjdlcopmhiaaDoorProg
import Derived.Below
import Derived.Deep.Draws
import Derived.Deep.AppendLies
import Derived.Maps.AppendAt
import Derived.OwnWalk
import Derived.Laws.BytesArg
import Derived.Laws.MakeOwn
import Derived.Laws.OwnMore
import Derived.Deep.OwnRows
import Derived.Tactics
import Derived.Lib.ConvBytes
import Derived.Laws.Slices
import Derived.WalkKit
import Derived.KernelRfl
import Derived.RowKit3
import Derived.Deep.LoopGhost
import Derived.Deep.QuietTactic
import Derived.BigQuiet
import Derived.WideLaws
import Derived.Deep.DeepCutAuto
import Derived.Deep.CutBlock
import Derived.Deep.RegionHeld3
import Derived.Laws.Rows
import Derived.Lib.AppendStr
import Derived.ArgAppend
import Derived.Laws.IdiomCopy
import Derived.OrdersHeld
import Derived.Laws.BitsLemmas
import Derived.RowKit
import Derived.Test.YthocjdlcopmhiaaDoorWWords
import Derived.Test.YthocjdlcopmhiaaDoorWLast
import Derived.Test.YthocjdlcopmhiaaDoorWTab
import Derived.Test.YthocjdlcopmhiaaDoorWQPut
import Derived.Test.YthocjdlcopmhiaaDoorWApart
import Derived.Test.YthocjdlcopmhiaaDoorWArr
import Derived.Test.YthocjdlcopmhiaaDoorWZeros
import Derived.Test.YthocjdlcopmhiaaDoorWFoot
import Derived.Test.YthocjdlcopmhiaaDoorWKept
import Derived.Test.YthocjdlcopmhiaaDoorWShare
import Derived.Test.YthocjdlcopmhiaaDoorWN
import Derived.Test.YthocjdlcopmhiaaDoorWRepsOne
import Derived.Test.YthocjdlcopmhiaaDoorWGuard
import Derived.Test.YthocjdlcopmhiaaDoorWNEv
import Derived.Test.YthocjdlcopmhiaaDoorWMore
import Derived.Test.YthocjdlcopmhiaaDoorWEqStruct
import Derived.Test.YthocjdlcopmhiaaDoorWFour
import Derived.Test.YthocjdlcopmhiaaDoorWFootNe
import Derived.Test.YthocjdlcopmhiaaDoorWAt
import Derived.Test.YthocjdlcopmhiaaDoorWInv
import Derived.Test.YthocjdlcopmhiaaDoorWInvWords
import Derived.Test.YthocjdlcopmhiaaDoorM2
import Derived.Test.YthocjdlcopmhiaaDoorPrx1
import Derived.Test.YthocjdlcopmhiaaDoorPrx2
import Derived.Test.YthocjdlcopmhiaaDoorPrx4
namespace Go.Proofs.YthocjdlcopmhiaaDoor.G
open Go.RowKit Go.Proofs.YthocjdlcopmhiaaDoorW.PrintWords Go.Proofs.YthocjdlcopmhiaaDoorW.PrintLast Go.Proofs.YthocjdlcopmhiaaDoorW.PrintMore
attribute [local go_sem] max2_int min2_int max_two min_two max_three min_three max_four min_four
set_option linter.unusedVariables false
set_option linter.unusedSimpArgs false
theorem clone_eq {l r : List Int} (h : slices_Clone_set.f l = some r) : r = l := by
 unfold slices_Clone_set.f at h
 split at h
 ·exact (Option.some.inj h).symm
 ·cases h
def RQ.T : Bool × List (List Nat × List Nat) := (true, [([], []), ([0], [0]), ([1], [1]), ([2], [2]), ([3, 2], [2, 3]), ([2, 4], [2, 4]), ([], []), ([6], [6]), ([7, 2], [7]), ([], []), ([9], [9]), ([10, 8], [10]), ([5, 8, 11], [5, 8, 11]), ([], []), ([13, 12, 11, 0, 1, 2, 3, 4, 5, 6, 7, 8, 9, 10, 11, 12, 13], [12, 13])])
def RQ.B : List Nat := [0, 1, 3, 7, 15, 31, 0, 64, 199, 0, 512, 1991, 4095, 0, 16383]
theorem RQ.tab : rtab .any (opsOf Tryd.f31 2) = RQ.T := by kernel_rfl
theorem RQ.bits : waitsOk RQ.T.2 RQ.B = true := by kernel_rfl
set_option maxHeartbeats 8000000 in
set_option maxRecDepth 100000 in
theorem seq_calls (k : Nat) (w0 w : World) (g : Nat) (Z : Nat → Prop) (n : Int) (syms : List Int) (rows rows' : List (List Int)) (nx ny : Bool) (A1 A2 A3 A4 : Option Addr) (c1 c2 c3 c4 : Nat) (xf xl yf yl f l : List Int)
  (hb : Bd w0 w g Z n syms rows) (htab : HTab w0) (hB : Below w0.heap.size w0 w)
  (hxf : Kd.V KU 77 w 0 (fun k => ¬ Z k) (.slice A1 xf.length c1) xf) (hxl : Kd.V KU 77 w 0 (fun k => ¬ Z k) (.slice A2 xl.length c2) xl)
  (hyf : Kd.V KU 77 w 0 (fun k => ¬ Z k) (.slice A3 yf.length c3) yf) (hyl : Kd.V KU 77 w 0 (fun k => ¬ Z k) (.slice A4 yl.length c4) yl)
  (hlk : linkF k rows xl yf = some rows') (hcf : slices_Clone_set.f xf = some xf) (hcl : slices_Clone_set.f yl = some yl)
  (hj1 : (if nx = true then Pr.glush_set_join.f k xf yf else some xf) = some f) (hj2 : (if ny = true then Pr.glush_set_join.f k yl xl else some yl) = some l) :
  Calls Tryd.prog 31 #[.pointer (some ⟨g, 0, none⟩), .agg #[.bool nx, .slice A1 xf.length c1, .slice A2 xl.length c2], .agg #[.bool ny, .slice A3 yf.length c3, .slice A4 yl.length c4]] w fun e w' =>
   ∃ A5 c5 A6 c6, e = .returned (.agg #[.bool (nx && ny), .slice A5 f.length c5, .slice A6 l.length c6]) ∧ Kd.R KU 77 w' w.heap.size (fun k => w.heap.size ≤ k) (.slice A5 f.length c5) f ∧ Kd.R KU 77 w' w.heap.size (fun k => w.heap.size ≤ k) (.slice A6 l.length c6) l ∧
   Bd w0 w' g Z n syms rows' ∧ Below w0.heap.size w0 w' ∧ Kept w w' Z := by
 have hu54 := Tryd.underlying54
 have hZ1 : ∀ j, w.heap.size ≤ j → ¬ Z j := hb.new
 have HT := Lib.hid htab; have HBd := Lib.hid hb; have HB := Lib.hid hB; have HXF := Lib.hid hxf; have HXL := Lib.hid hxl; have HYF := Lib.hid hyf; have HYL := Lib.hid hyl
 have HLK := Lib.hid hlk; have HCF := Lib.hid hcf; have HCL := Lib.hid hcl; have HJ1 := Lib.hid hj1; have HJ2 := Lib.hid hj2; have HZ := Lib.hid hZ1
 clear htab hb hB hxf hxl hyf hyl hlk hcf hcl hj1 hj2 hZ1
 go_enter Tryd.func31, Tryd.ntmps31
 cases nx
 case false =>
  go_wp2_with (fail)
  have HB2 := below_alloc (below_alloc (below_alloc (Below.refl w.heap.size w) (.cells #[.bool false, .slice A1 xf.length c1, .slice A2 xl.length c2] 54)) (.cells #[.bool ny, .slice A3 yf.length c3, .slice A4 yl.length c4] 54)) (.cells #[.bool false, .slice none 0 0, .slice none 0 0] 54)
  have KX : (((w.alloc (.cells #[.bool false, .slice A1 xf.length c1, .slice A2 xl.length c2] 54)).alloc (.cells #[.bool ny, .slice A3 yf.length c3, .slice A4 yl.length c4] 54)).alloc (.cells #[.bool false, .slice none 0 0, .slice none 0 0] 54)).heap[w.heap.size]? = some (.cells #[.bool false, .slice A1 xf.length c1, .slice A2 xl.length c2] 54 (0, 0)) := blk_alloc (blk_alloc (blk_new w _) _) _
  have KY : (((w.alloc (.cells #[.bool false, .slice A1 xf.length c1, .slice A2 xl.length c2] 54)).alloc (.cells #[.bool ny, .slice A3 yf.length c3, .slice A4 yl.length c4] 54)).alloc (.cells #[.bool false, .slice none 0 0, .slice none 0 0] 54)).heap[w.heap.size + 1]? = some (.cells #[.bool ny, .slice A3 yf.length c3, .slice A4 yl.length c4] 54 (0, 0)) := by
   have := blk_alloc (blk_new (w.alloc (.cells #[.bool false, .slice A1 xf.length c1, .slice A2 xl.length c2] 54)) (.cells #[.bool ny, .slice A3 yf.length c3, .slice A4 yl.length c4] 54)) (.cells #[.bool false, .slice none 0 0, .slice none 0 0] 54); simpa using this
  have KR : (((w.alloc (.cells #[.bool false, .slice A1 xf.length c1, .slice A2 xl.length c2] 54)).alloc (.cells #[.bool ny, .slice A3 yf.length c3, .slice A4 yl.length c4] 54)).alloc (.cells #[.bool false, .slice none 0 0, .slice none 0 0] 54)).heap[w.heap.size + 2]? = some (.cells #[.bool false, .slice none 0 0, .slice none 0 0] 54 (0, 0)) := by
   have := blk_new ((w.alloc (.cells #[.bool false, .slice A1 xf.length c1, .slice A2 xl.length c2] 54)).alloc (.cells #[.bool ny, .slice A3 yf.length c3, .slice A4 yl.length c4] 54)) (.cells #[.bool false, .slice none 0 0, .slice none 0 0] 54); simpa using this
  generalize ((w.alloc (.cells #[.bool false, .slice A1 xf.length c1, .slice A2 xl.length c2] 54)).alloc (.cells #[.bool ny, .slice A3 yf.length c3, .slice A4 yl.length c4] 54)).alloc (.cells #[.bool false, .slice none 0 0, .slice none 0 0] 54) = wA at HB2 KX KY KR ⊢
  have HBA := below_step HB.out HB2; have HBS := Lib.hid HB.out.size
  refine (link_calls k w0 wA g Z n syms rows rows' false ny A1 A2 A3 A4 xf.length c1 c2 c3 yl.length c4 xl yf (HBd.out.below HB2) HT.out HBA (Kd.V_below HXL.out HB2) (Kd.V_below HYF.out HB2) HLK.out).mono ?_
  rintro e w1 ⟨rfl, hbd, hbb, hkk⟩
  have HK0 : Kept w w1 Z := (Kept.of_below HB2 Z).then_ hkk (fun _ h => .inl h)
  have KX1 := blk_kept KX hkk (HZ.out _ (Nat.le_refl _)); have KY1 := blk_kept KY hkk (HZ.out _ (Nat.le_succ _)); have KR1 := blk_kept KR hkk (HZ.out _ (by omega))
  have HXF1 := Kd.V_bound (Kd.V_kept HXF.out HK0 (fun _ h1 h2 => h1 h2))
  have HXL1 := Kd.V_bound (Kd.V_kept HXL.out HK0 (fun _ h1 h2 => h1 h2))
  have HYF1 := Kd.V_bound (Kd.V_kept HYF.out HK0 (fun _ h1 h2 => h1 h2))
  have HYL1 := Kd.V_bound (Kd.V_kept HYL.out HK0 (fun _ h1 h2 => h1 h2))
  clear HXF HXL HYF HYL HBd HB HB2 HBA KX KY KR hkk HT HLK
  obtain ⟨x0, x1, x2, _, _, _⟩ := cells3 KX1; obtain ⟨y0, y1, y2, _, _, _⟩ := cells3 KY1
  have HK1 := Lib.hid HK0; have HBd1 := Lib.hid hbd; have HBB1 := Lib.hid hbb; clear HK0 hbd hbb
  replace KX1 := Lib.hid KX1; replace KY1 := Lib.hid KY1; replace KR1 := Lib.hid KR1; replace HXF1 := Lib.hid HXF1; replace HXL1 := Lib.hid HXL1; replace HYF1 := Lib.hid HYF1; replace HYL1 := Lib.hid HYL1
  have HGX := Lib.hid (blk_lt KR1.out)
  go_wp2_with (fail)
  refine start_ (n := 15) (S := fun w' => w'.cell? ⟨w.heap.size, 0, none⟩ = some (.bool false) ∧ w'.cell? ⟨w.heap.size, 1, none⟩ = some (.slice A1 xf.length c1) ∧ w'.cell? ⟨w.heap.size + 1, 0, none⟩ = some (.bool ny) ∧ w'.cell? ⟨w.heap.size + 1, 2, none⟩ = some (.slice A4 yl.length c4)) (ds := [14]) (S.um 15 0) (by kernel_rfl) rfl rfl ⟨x0, x1, y0, y2⟩ (fun hHeld => ?_); refine with_tabW RQ.tab RQ.bits (fun HT_ HW_ => ?_)
  replace HK1 : Hid (Kept w w1.drew Z) := HK1; replace HBd1 := Lib.hid (HBd1.out.below (below_drew1 (Below.refl w1.heap.size w1))); replace HBB1 := Lib.hid (below_drew1 HBB1.out)
  replace KX1 := Lib.hid (blk_drew KX1.out); replace KY1 := Lib.hid (blk_drew KY1.out); replace KR1 := Lib.hid (blk_drew KR1.out); replace HXF1 := Lib.hid (Kd.V_drew HXF1.out); replace HXL1 := Lib.hid (Kd.V_drew HXL1.out); replace HYF1 := Lib.hid (Kd.V_drew HYF1.out); replace HYL1 := Lib.hid (Kd.V_drew HYL1.out)
  have HSZ : Hid (w1.heap.size = w1.drew.heap.size) := Lib.hid rfl
  clear x0 x1 x2 y0 y1 y2
  generalize w1.drew = w2 at HK1 HBd1 HBB1 KX1 KY1 KR1 HXF1 HXL1 HYF1 HYL1 hHeld HSZ ⊢
  refine S.p 15 0 12 1 HT_.out rfl rfl ?_
  refine S.p 15 6 18 65 HT_.out rfl rfl ?_
  refine S.p 15 9 21 577 HT_.out rfl rfl ?_
  refine S.t 15 1 13 579 HT_.out HW_.out rfl rfl hHeld ?_
  refine S.p 15 2 14 583 HT_.out rfl rfl ?_
  refine S.u 15 3 15 591 HT_.out rfl rfl ?_
  refine S.u 15 4 16 607 HT_.out rfl rfl ?_
  refine S.p 15 5 17 639 HT_.out rfl rfl ?_
  refine S.t 15 7 19 767 HT_.out HW_.out rfl rfl hHeld ?_
  refine S.t 15 10 22 1791 HT_.out HW_.out rfl rfl hHeld ?_
  refine join_ (σ := Option Addr × Nat × Option Addr × Nat × Nat) 1 (S.um 15 16383) (fun s_ => [(20, .slice s_.1 xf.length s_.2.1), (23, .slice s_.2.2.1 yl.length s_.2.2.2.1), (24, .agg #[.bool false, .slice s_.1 xf.length s_.2.1, .slice s_.2.2.1 yl.length s_.2.2.2.1]), (7, .pointer (some ⟨s_.2.2.2.2, 0, none⟩))]) (fun s_ w' => (w'.cell? ⟨w.heap.size, 0, none⟩ = some (.bool false) ∧ w'.cell? ⟨w.heap.size, 1, none⟩ = some (.slice A1 xf.length c1) ∧ w'.cell? ⟨w.heap.size + 1, 0, none⟩ = some (.bool ny) ∧ w'.cell? ⟨w.heap.size + 1, 2, none⟩ = some (.slice A4 yl.length c4)) ∧ Below w2.heap.size w2 w' ∧ w2.heap.size ≤ s_.2.2.2.2 ∧ w'.heap[s_.2.2.2.2]? = some (.cells #[.bool false, .slice none 0 0, .slice none 0 0] 54 (0, 0)) ∧ Kd.R KU 77 w' w2.heap.size (fun k => some k ≠ (Value.slice s_.2.2.1 yl.length s_.2.2.2.1).ownBlock) (.slice s_.1 xf.length s_.2.1) xf ∧ Kd.R KU 77 w' w2.heap.size (fun k => some k ≠ (Value.slice s_.1 xf.length s_.2.1).ownBlock) (.slice s_.2.2.1 yl.length s_.2.2.2.1) yl) ?_ ?_; rotate_left
  ·intro hCont
   have HL := Lib.hid (Below.refl w2.heap.size w2)
   refine two_ (i := 8) (j := 13) (Ni := some 20) (Nj := some 7) (S.um 15 2047) (S.um 15 9983) rfl rfl rfl rfl (two_of HT_.out (by kernel_rfl)) (by decide) (by decide) (fun K hK => ?_) (fun K hK => ?_)
   ·have HLO5 := Lib.hid HL.out.size
    refine S.g Tryd.func46 #[.slice A1 xf.length c1] rfl rfl ?_; (with_reducible refine (slices_Clone_set.calls A1 c1 xf xf w2 (Kd.F_now (Kd.V_at (Kd.V_below HXF1.out HL.out)).2.2) (Kd.V_at HXF1.out).2.1 HCF.out).mono ?_); rintro e w3 ⟨v5, rfl, hv5, hb⟩; obtain ⟨A5, c5, rfl⟩ := Kd.R_slice hv5; refine ⟨_, rfl, ?_⟩
    have HV5 := Lib.hid hv5; clear hv5; replace HL := Lib.hid (below_step HL.out hb)
    refine hK.out _ _ ⟨cell_below hHeld.1 hb, cell_below hHeld.2.1 hb, cell_below hHeld.2.2.1 hb, cell_below hHeld.2.2.2 hb⟩ (fun hHeld => ?_); clear hK K hb; refine S.w 20 ?_
    refine two_ (i := 11) (j := 13) (Ni := some 23) (Nj := some 7) (S.um 15 4095) (S.um 15 10239) rfl rfl rfl rfl (two_of HT_.out (by kernel_rfl)) (by decide) (by decide) (fun K hK => ?_) (fun K hK => ?_)
    ·skip
     refine S.g Tryd.func46 #[.slice A4 yl.length c4] rfl rfl ?_; (with_reducible refine (slices_Clone_set.calls A4 c4 yl yl w3 (Kd.F_now (Kd.V_at (Kd.V_below HYL1.out HL.out)).2.2) (Kd.V_at HYL1.out).2.1 HCL.out).mono ?_); rintro e w4 ⟨v6, rfl, hv6, hb⟩; obtain ⟨A6, c6, rfl⟩ := Kd.R_slice hv6; refine ⟨_, rfl, ?_⟩
     have HAP := Lib.hid (fun (q : Nat) (h1 : some q = (Value.slice A5 xf.length c5).ownBlock) (h2 : some q = (Value.slice A6 yl.length c6).ownBlock) => (Nat.lt_irrefl q (Nat.lt_of_lt_of_le (Kd.R_lt HV5.out q h1.symm) (Kd.R_base hv6 q h2.symm)) : False))
     have HV6 := Lib.hid (Kd.R_lower hv6 HL.out.size); replace HV5 := Lib.hid (Kd.R_below HV5.out hb); clear hv6; replace HL := Lib.hid (below_step HL.out hb)
     refine hK.out _ _ ⟨cell_below hHeld.1 hb, cell_below hHeld.2.1 hb, cell_below hHeld.2.2.1 hb, cell_below hHeld.2.2.2 hb⟩ (fun hHeld => ?_); clear hK K hb; refine S.w 23 ?_
     refine S.p 15 12 24 8191 HT_.out rfl rfl ?_
     refine S.o 15 13 7 16383 HT_.out rfl rfl (fun K hK => ?_)
     refine box_step ?hg (N := 7) ?hd (cs := #[.bool false, .slice none 0 0, .slice none 0 0]) (t := 54) ?hr ?_; (case hd => rfl); (case hg => rfl); (case hr => first | (go_simp; done) | (go_simp; rfl)); intro g7 hg w5 hbox hb
     have HGE := Lib.hid (Nat.le_trans HL.out.size (Nat.le_of_eq hg.symm)); have HG7 := Lib.hid hbox; replace HL := Lib.hid (below_step HL.out hb); replace HV5 := Lib.hid (Kd.R_below HV5.out hb); replace HV6 := Lib.hid (Kd.R_below HV6.out hb)
     refine hK.out _ _ ⟨cell_below hHeld.1 hb, cell_below hHeld.2.1 hb, cell_below hHeld.2.2.1 hb, cell_below hHeld.2.2.2 hb⟩ (fun hHeld => ?_); clear hK K hb hbox hg; refine S.w 7 ?_
     exact norm_ (by simp only [putAll, Act.put, List.setIfInBounds_toArray, List.set_cons_zero, List.set_cons_succ]) (hCont (A5, c5, A6, c6, g7) _ ⟨hHeld, HL.out, HGE.out, HG7.out, Kd.R_mono (Kd.R_tight rfl (Kd.R_lower HV5.out HLO5.out)) (fun q h1 h2 => HAP.out q h1 h2), Kd.R_mono (Kd.R_tight rfl HV6.out) (fun q h1 h2 => HAP.out q h2 h1)⟩)
    ·skip
     refine box_step ?hg (N := 7) ?hd (cs := #[.bool false, .slice none 0 0, .slice none 0 0]) (t := 54) ?hr ?_; (case hd => rfl); (case hg => rfl); (case hr => first | (go_simp; done) | (go_simp; rfl)); intro g7 hg w4 hbox hb
     have HGE := Lib.hid (Nat.le_trans HL.out.size (Nat.le_of_eq hg.symm)); have HG7 := Lib.hid hbox; replace HL := Lib.hid (below_step HL.out hb); replace HV5 := Lib.hid (Kd.R_below HV5.out hb)
     refine hK.out _ _ ⟨cell_below hHeld.1 hb, cell_below hHeld.2.1 hb, cell_below hHeld.2.2.1 hb, cell_below hHeld.2.2.2 hb⟩ (fun hHeld => ?_); clear hK K hb hbox hg; refine S.w 7 ?_
     refine S.o 15 11 23 12287 HT_.out rfl rfl (fun K hK => ?_)
     refine S.g Tryd.func46 #[.slice A4 yl.length c4] rfl rfl ?_; (with_reducible refine (slices_Clone_set.calls A4 c4 yl yl w4 (Kd.F_now (Kd.V_at (Kd.V_below HYL1.out HL.out)).2.2) (Kd.V_at HYL1.out).2.1 HCL.out).mono ?_); rintro e w5 ⟨v6, rfl, hv6, hb⟩; obtain ⟨A6, c6, rfl⟩ := Kd.R_slice hv6; refine ⟨_, rfl, ?_⟩
     have HAP := Lib.hid (fun (q : Nat) (h1 : some q = (Value.slice A5 xf.length c5).ownBlock) (h2 : some q = (Value.slice A6 yl.length c6).ownBlock) => (Nat.lt_irrefl q (Nat.lt_of_lt_of_le (Kd.R_lt HV5.out q h1.symm) (Kd.R_base hv6 q h2.symm)) : False))
     have HV6 := Lib.hid (Kd.R_lower hv6 HL.out.size); replace HV5 := Lib.hid (Kd.R_below HV5.out hb); clear hv6; replace HL := Lib.hid (below_step HL.out hb); replace HG7 := Lib.hid (blk_below HG7.out hb)
     refine hK.out _ _ ⟨cell_below hHeld.1 hb, cell_below hHeld.2.1 hb, cell_below hHeld.2.2.1 hb, cell_below hHeld.2.2.2 hb⟩ (fun hHeld => ?_); clear hK K hb; refine S.w 23 ?_
     refine S.p 15 12 24 16383 HT_.out rfl rfl ?_
     exact norm_ (by simp only [putAll, Act.put, List.setIfInBounds_toArray, List.set_cons_zero, List.set_cons_succ]) (hCont (A5, c5, A6, c6, g7) _ ⟨hHeld, HL.out, HGE.out, HG7.out, Kd.R_mono (Kd.R_tight rfl (Kd.R_lower HV5.out HLO5.out)) (fun q h1 h2 => HAP.out q h1 h2), Kd.R_mono (Kd.R_tight rfl HV6.out) (fun q h1 h2 => HAP.out q h2 h1)⟩)
   ·skip
    refine box_step ?hg (N := 7) ?hd (cs := #[.bool false, .slice none 0 0, .slice none 0 0]) (t := 54) ?hr ?_; (case hd => rfl); (case hg => rfl); (case hr => first | (go_simp; done) | (go_simp; rfl)); intro g7 hg w3 hbox hb
    have HGE := Lib.hid (Nat.le_trans HL.out.size (Nat.le_of_eq hg.symm)); have HG7 := Lib.hid hbox; replace HL := Lib.hid (below_step HL.out hb)
    refine hK.out _ _ ⟨cell_below hHeld.1 hb, cell_below hHeld.2.1 hb, cell_below hHeld.2.2.1 hb, cell_below hHeld.2.2.2 hb⟩ (fun hHeld => ?_); clear hK K hb hbox hg; refine S.w 7 ?_
    have HLO5 := Lib.hid HL.out.size
    refine S.o 15 8 20 10239 HT_.out rfl rfl (fun K hK => ?_)
    refine S.g Tryd.func46 #[.slice A1 xf.length c1] rfl rfl ?_; (with_reducible refine (slices_Clone_set.calls A1 c1 xf xf w3 (Kd.F_now (Kd.V_at (Kd.V_below HXF1.out HL.out)).2.2) (Kd.V_at HXF1.out).2.1 HCF.out).mono ?_); rintro e w4 ⟨v5, rfl, hv5, hb⟩; obtain ⟨A5, c5, rfl⟩ := Kd.R_slice hv5; refine ⟨_, rfl, ?_⟩
    have HV5 := Lib.hid hv5; clear hv5; replace HL := Lib.hid (below_step HL.out hb); replace HG7 := Lib.hid (blk_below HG7.out hb)
    refine hK.out _ _ ⟨cell_below hHeld.1 hb, cell_below hHeld.2.1 hb, cell_below hHeld.2.2.1 hb, cell_below hHeld.2.2.2 hb⟩ (fun hHeld => ?_); clear hK K hb; refine S.w 20 ?_
    refine S.o 15 11 23 12287 HT_.out rfl rfl (fun K hK => ?_)
    refine S.g Tryd.func46 #[.slice A4 yl.length c4] rfl rfl ?_; (with_reducible refine (slices_Clone_set.calls A4 c4 yl yl w4 (Kd.F_now (Kd.V_at (Kd.V_below HYL1.out HL.out)).2.2) (Kd.V_at HYL1.out).2.1 HCL.out).mono ?_); rintro e w5 ⟨v6, rfl, hv6, hb⟩; obtain ⟨A6, c6, rfl⟩ := Kd.R_slice hv6; refine ⟨_, rfl, ?_⟩
    have HAP := Lib.hid (fun (q : Nat) (h1 : some q = (Value.slice A5 xf.length c5).ownBlock) (h2 : some q = (Value.slice A6 yl.length c6).ownBlock) => (Nat.lt_irrefl q (Nat.lt_of_lt_of_le (Kd.R_lt HV5.out q h1.symm) (Kd.R_base hv6 q h2.symm)) : False))
    have HV6 := Lib.hid (Kd.R_lower hv6 HL.out.size); replace HV5 := Lib.hid (Kd.R_below HV5.out hb); clear hv6; replace HL := Lib.hid (below_step HL.out hb); replace HG7 := Lib.hid (blk_below HG7.out hb)
    refine hK.out _ _ ⟨cell_below hHeld.1 hb, cell_below hHeld.2.1 hb, cell_below hHeld.2.2.1 hb, cell_below hHeld.2.2.2 hb⟩ (fun hHeld => ?_); clear hK K hb; refine S.w 23 ?_
    refine S.p 15 12 24 16383 HT_.out rfl rfl ?_
    exact norm_ (by simp only [putAll, Act.put, List.setIfInBounds_toArray, List.set_cons_zero, List.set_cons_succ]) (hCont (A5, c5, A6, c6, g7) _ ⟨hHeld, HL.out, HGE.out, HG7.out, Kd.R_mono (Kd.R_tight rfl (Kd.R_lower HV5.out HLO5.out)) (fun q h1 h2 => HAP.out q h1 h2), Kd.R_mono (Kd.R_tight rfl HV6.out) (fun q h1 h2 => HAP.out q h2 h1)⟩)
  rintro ⟨A5, c5, A6, c6, g7⟩ w5 ⟨hHeld, hl_, hg_, hz_, h5_, h6_⟩; dsimp only at hHeld hl_ hg_ hz_ h5_ h6_
  have HL := Lib.hid hl_; have HGE := Lib.hid hg_; have HG7 := Lib.hid hz_; have HV5 := Lib.hid h5_; have HV6 := Lib.hid h6_; clear hl_ hg_ hz_ h5_ h6_
  refine norm_ (a' := ?_) ?_ ?_; rotate_left
  ·simp only [putAll, Act.put, List.setIfInBounds_toArray, List.set_cons_zero, List.set_cons_succ]; rfl
  refine last_ (i := 14) (N := none) (S.um 15 32767) rfl rfl (one_of HT_.out (by kernel_rfl)) (by decide) (fun K hK => ?_)
  obtain ⟨z0, z1, z2, f0, f1, f2⟩ := cells3 HG7.out
  refine skip_ (w1 := ?_) (by rfl) rfl ?_ ?_; rotate_left
  ·go_simp; rfl
  clear z0 z1 z2 f0 f1 f2 hHeld
  refine hK.out _ _ ?_; clear hK K
  refine done_ (done_of HT_.out (by kernel_rfl)) ?_; clear HT_ HW_
  have hs7 := st3_self (w := w5) (g := g7) (.bool false) (.slice A5 xf.length c5) (.slice A6 yl.length c6)
  have K7 : (st3 w5 g7 (.bool false) (.slice A5 xf.length c5) (.slice A6 yl.length c6)).heap[g7]? = some (.cells #[.bool false, .slice A5 xf.length c5, .slice A6 yl.length c6] 54 (0, 0)) := st3_blk HG7.out
  have hb7 := st3_below (g := g7) HL.out HGE.out (.bool false) (.slice A5 xf.length c5) (.slice A6 yl.length c6)
  have hk7 : Kept w2 (st3 w5 g7 (.bool false) (.slice A5 xf.length c5) (.slice A6 yl.length c6)) (fun _ => False) := st3_kept (S := fun _ => False) (Kept.of_below HL.out _) (.inr HGE.out) (.bool false) (.slice A5 xf.length c5) (.slice A6 yl.length c6)
  have R5 := Kd.R_kept (Kd.R_mono (Kd.R_types (Kd.R_tight rfl HV5.out) HG7.out (by decide)) (ok' := fun k => some k = (Value.slice A5 xf.length c5).ownBlock ∧ k ≠ g7) (fun _ h => h)) hs7 (fun k h1 h2 => h1.2 h2)
  have R6 := Kd.R_kept (Kd.R_mono (Kd.R_types (Kd.R_tight rfl HV6.out) HG7.out (by decide)) (ok' := fun k => some k = (Value.slice A6 yl.length c6).ownBlock ∧ k ≠ g7) (fun _ h => h)) hs7 (fun k h1 h2 => h1.2 h2)
  have HNE := Lib.hid (fun (q : Nat) (h1 : some q = (Value.slice A5 xf.length c5).ownBlock) (h2 : some q = (Value.slice A6 yl.length c6).ownBlock) => (HV5.out.1 q h1.symm h2 : False))
  replace R5 := Kd.R_mono (Kd.R_tight rfl R5) (ok' := fun k => some k = (Value.slice A5 xf.length c5).ownBlock) (fun _ h => h); replace R6 := Kd.R_mono (Kd.R_tight rfl R6) (ok' := fun k => some k = (Value.slice A6 yl.length c6).ownBlock) (fun _ h => h)
  generalize hw6 : st3 w5 g7 (.bool false) (.slice A5 xf.length c5) (.slice A6 yl.length c6) = w6 at hs7 K7 hb7 hk7 R5 R6
  have hw6' : ((w5.setCell ⟨g7, 0, none⟩ (.bool false)).setCell ⟨g7, 1, none⟩ (.slice A5 xf.length c5)).setCell ⟨g7, 2, none⟩ (.slice A6 yl.length c6) = w6 := hw6
  rw [hw6']; clear hw6 hw6' hs7 HV5 HV6 HG7 HL
  have KX6 := Lib.hid (blk_below KX1.out hb7); have KY6 := Lib.hid (blk_below KY1.out hb7); have KR6 := Lib.hid (blk_below KR1.out hb7); have XL6 := Lib.hid (Kd.V_below HXL1.out hb7); have YF6 := Lib.hid (Kd.V_below HYF1.out hb7)
  have B6 := Lib.hid (HBd1.out.below hb7); have BB6 := Lib.hid (below_step HBB1.out hb7); have HKW6 := Lib.hid ((HK1.out).below hb7); have HK7 := Lib.hid K7; have HR5 := Lib.hid R5; have HR6 := Lib.hid R6; have HSZ2 := Lib.hid (HBB1.out.size); have HZL := Lib.hid (fun (q : Nat) (hz : Z q) => (HBd1.out.2.2 q hz).2); have HWL := Lib.hid (Nat.le_trans (Nat.le_add_right _ 2) (Nat.le_of_lt (Nat.lt_of_lt_of_eq HGX.out HSZ.out))); clear R5 R6 K7 hb7 hk7 KX1 KY1 KR1 HXF1 HXL1 HYF1 HYL1 HBd1 HBB1 HK1 HCF HCL
  clear HGE
  have HLTX := Lib.hid (Nat.lt_of_lt_of_eq (Nat.lt_of_le_of_lt (Nat.le_add_right _ 2) HGX.out) HSZ.out); have HLTY := Lib.hid (Nat.lt_of_lt_of_eq (Nat.lt_of_le_of_lt (by omega : w.heap.size + 1 ≤ w.heap.size + 2) HGX.out) HSZ.out); have HLTR := Lib.hid (Nat.lt_of_lt_of_eq HGX.out HSZ.out); clear HGX
  replace XL6 := Lib.hid (Kd.V_mono XL6.out (ok' := fun q => ¬ Z q ∧ q < w2.heap.size) (fun q h => ⟨h.1, Nat.lt_of_lt_of_eq h.2 HSZ.out⟩)); replace YF6 := Lib.hid (Kd.V_mono YF6.out (ok' := fun q => ¬ Z q ∧ q < w2.heap.size) (fun q h => ⟨h.1, Nat.lt_of_lt_of_eq h.2 HSZ.out⟩))
  cases ny
  case false =>
   obtain ⟨x0, x1, x2, _, _, _⟩ := cells3 KX6.out; obtain ⟨y0, y1, y2, _, _, _⟩ := cells3 KY6.out; obtain ⟨s0, s1, s2, _, _, _⟩ := cells3 HK7.out; obtain ⟨r0, r1, r2, f0, f1, f2⟩ := cells3 KR6.out
   go_wp2_with (fail)
   refine bodyPost_ret (results_cell_row rfl _ _ (w.heap.size + 2) 54 #[.bool false, .slice A5 xf.length c5, .slice A6 yl.length c6] (0, 0) _ rfl (st3_blk KR6.out) Tryd.underlying54 rfl (by kernel_rfl)) rfl ?_
   have hs := st3_self (w := w6) (g := w.heap.size + 2) (.bool false) (.slice A5 xf.length c5) (.slice A6 yl.length c6)
   have e5 : xf = f := Option.some.inj ((if_neg (by decide)).symm.trans HJ1.out)
   have e6 : yl = l := Option.some.inj ((if_neg (by decide)).symm.trans HJ2.out)
   have V5 := Kd.R_kept (Kd.R_mono (Kd.R_types HR5.out KR6.out (by decide)) (ok' := fun k => w.heap.size ≤ k ∧ k ≠ w.heap.size + 2) (fun k h => ⟨Nat.le_trans HWL.out (Kd.R_base HR5.out k h.1.symm), h.2⟩)) hs (fun k h1 h2 => h1.2 h2)
   have V6 := Kd.R_kept (Kd.R_mono (Kd.R_types HR6.out KR6.out (by decide)) (ok' := fun k => w.heap.size ≤ k ∧ k ≠ w.heap.size + 2) (fun k h => ⟨Nat.le_trans HWL.out (Kd.R_base HR6.out k h.1.symm), h.2⟩)) hs (fun k h1 h2 => h1.2 h2)
   subst e5
   subst e6
   exact ⟨A5, c5, A6, c6, rfl, R_up V5 (fun k h => h.1), R_up V6 (fun k h => h.1), B6.out.kept hs (fun q h1 h2 => HZ.out _ (h2 ▸ Nat.le_add_right _ 2) h1), st3_below BB6.out (Nat.le_trans HBS.out (Nat.le_add_right _ 2)) _ _ _, st3_kept HKW6.out (.inr (Nat.le_add_right _ 2)) _ _ _⟩
  case true =>
   obtain ⟨x0, x1, x2, _, _, _⟩ := cells3 KX6.out; obtain ⟨y0, y1, y2, _, _, _⟩ := cells3 KY6.out; obtain ⟨s0, s1, s2, _, _, _⟩ := cells3 HK7.out; obtain ⟨r0, r1, r2, f0, f1, f2⟩ := cells3 KR6.out
   go_wp2_with (fail)
   clear x0 x1 x2 y0 y1 y2 s0 s1 s2 r0 r1 r2 f0 f1 f2
   have hj : Pr.glush_set_join.f k yl xl = some l := by have h_ := HJ2.out; simpa using h_
   (with_reducible refine (Pr.glush_set_join.calls k (fun q => some q = (Value.slice A6 yl.length c6).ownBlock) (.slice A6 yl.length c6) yl A2 c2 xl l w0 w6 BB6.out (Kd.R_lower HR6.out HSZ2.out) ?hr1 (Kd.V_at XL6.out).2.1 hj).mono ?_)
   case hr1 => exact fun W_ hk => Kd.F_now (Kd.V_at (Kd.V_kept XL6.out hk (fun q h1 h2 => Nat.lt_irrefl q (Nat.lt_of_lt_of_le h1.2 (Kd.R_base HR6.out q h2.symm))))).2.2
   rintro e w8 ⟨rfl, hr, hb, hk⟩
   have hlen := (Kd.R_reads' hr).1
   have hge : ∀ q, some q = (Value.slice A6 yl.length c6).ownBlock → w2.heap.size ≤ q := fun q h => Kd.R_base HR6.out q h.symm
   have KX8 := Lib.hid (blk_kept KX6.out hk (fun h => Nat.lt_irrefl _ (Nat.lt_of_lt_of_le HLTX.out (hge _ h)))); have KY8 := Lib.hid (blk_kept KY6.out hk (fun h => Nat.lt_irrefl _ (Nat.lt_of_lt_of_le HLTY.out (hge _ h)))); have KR8 := Lib.hid (blk_kept KR6.out hk (fun h => Nat.lt_irrefl _ (Nat.lt_of_lt_of_le HLTR.out (hge _ h)))); have HK78 := Lib.hid (blk_kept HK7.out hk (fun h => Kd.R_ne HR6.out HK7.out (by decide) h))
   have HR5n := Lib.hid (Kd.R_kept HR5.out hk (fun q h1 h2 => HNE.out q h1 h2)); clear HR5; have HR5 := HR5n; clear HR5n
   have XL8 := Lib.hid (Kd.V_kept XL6.out hk (fun q h1 h2 => Nat.lt_irrefl q (Nat.lt_of_lt_of_le h1.2 (hge q h2)))); have YF8 := Lib.hid (Kd.V_kept YF6.out hk (fun q h1 h2 => Nat.lt_irrefl q (Nat.lt_of_lt_of_le h1.2 (hge q h2))))
   have B8 := Lib.hid (B6.out.kept hk (fun q h1 h2 => Nat.lt_irrefl q (Nat.lt_of_lt_of_le (HZL.out q h1) (hge q h2)))); have HKW8 := Lib.hid (HKW6.out.then_ hk (fun q h => .inr (Nat.le_trans HWL.out (hge q h)))); have BB8 := Lib.hid hb
   have HRN := Lib.hid (Kd.R_tight rfl hr); have HGEN := Lib.hid hge; have HLEN6 := Lib.hid hlen; clear hr hb hk hlen hge hj HR6 KX6 KY6 KR6 HK7 XL6 YF6 B6 HKW6 BB6; have HR6 := HRN; clear HRN; have HG6 := HGEN; clear HGEN
   obtain ⟨x0, x1, x2, _, _, _⟩ := cells3 KX8.out; obtain ⟨y0, y1, y2, _, _, _⟩ := cells3 KY8.out; obtain ⟨s0, s1, s2, _, _, _⟩ := cells3 HK78.out; obtain ⟨r0, r1, r2, f0, f1, f2⟩ := cells3 KR8.out
   go_wp2_with (fail)
   refine bodyPost_ret (results_cell_row rfl _ _ (w.heap.size + 2) 54 #[.bool false, .slice A5 xf.length c5, .slice A6 yl.length c6] (0, 0) _ rfl (st3_blk KR8.out) Tryd.underlying54 rfl (by kernel_rfl)) rfl ?_
   have hs := st3_self (w := w8) (g := w.heap.size + 2) (.bool false) (.slice A5 xf.length c5) (.slice A6 yl.length c6)
   have e5 : xf = f := Option.some.inj ((if_neg (by decide)).symm.trans HJ1.out)
   have e6 : yl.length = l.length := HLEN6.out
   have V5 := Kd.R_kept (Kd.R_mono (Kd.R_types HR5.out KR8.out (by decide)) (ok' := fun k => w.heap.size ≤ k ∧ k ≠ w.heap.size + 2) (fun k h => ⟨Nat.le_trans HWL.out (Kd.R_base HR5.out k h.1.symm), h.2⟩)) hs (fun k h1 h2 => h1.2 h2)
   have V6 := Kd.R_kept (Kd.R_mono (Kd.R_types HR6.out KR8.out (by decide)) (ok' := fun k => w.heap.size ≤ k ∧ k ≠ w.heap.size + 2) (fun k h => ⟨Nat.le_trans HWL.out (HG6.out k h.1), h.2⟩)) hs (fun k h1 h2 => h1.2 h2)
   subst e5
   exact ⟨A5, c5, A6, c6, by (try rw [e6]); (try rfl), R_up V5 (fun k h => h.1), R_len e6 (R_up V6 (fun k h => h.1)), B8.out.kept hs (fun q h1 h2 => HZ.out _ (h2 ▸ Nat.le_add_right _ 2) h1), st3_below BB8.out (Nat.le_trans HBS.out (Nat.le_add_right _ 2)) _ _ _, st3_kept HKW8.out (.inr (Nat.le_add_right _ 2)) _ _ _⟩
 case true =>
  go_wp2_with (fail)
  have HB2 := below_alloc (below_alloc (below_alloc (Below.refl w.heap.size w) (.cells #[.bool true, .slice A1 xf.length c1, .slice A2 xl.length c2] 54)) (.cells #[.bool ny, .slice A3 yf.length c3, .slice A4 yl.length c4] 54)) (.cells #[.bool false, .slice none 0 0, .slice none 0 0] 54)
  have KX : (((w.alloc (.cells #[.bool true, .slice A1 xf.length c1, .slice A2 xl.length c2] 54)).alloc (.cells #[.bool ny, .slice A3 yf.length c3, .slice A4 yl.length c4] 54)).alloc (.cells #[.bool false, .slice none 0 0, .slice none 0 0] 54)).heap[w.heap.size]? = some (.cells #[.bool true, .slice A1 xf.length c1, .slice A2 xl.length c2] 54 (0, 0)) := blk_alloc (blk_alloc (blk_new w _) _) _
  have KY : (((w.alloc (.cells #[.bool true, .slice A1 xf.length c1, .slice A2 xl.length c2] 54)).alloc (.cells #[.bool ny, .slice A3 yf.length c3, .slice A4 yl.length c4] 54)).alloc (.cells #[.bool false, .slice none 0 0, .slice none 0 0] 54)).heap[w.heap.size + 1]? = some (.cells #[.bool ny, .slice A3 yf.length c3, .slice A4 yl.length c4] 54 (0, 0)) := by
   have := blk_alloc (blk_new (w.alloc (.cells #[.bool true, .slice A1 xf.length c1, .slice A2 xl.length c2] 54)) (.cells #[.bool ny, .slice A3 yf.length c3, .slice A4 yl.length c4] 54)) (.cells #[.bool false, .slice none 0 0, .slice none 0 0] 54); simpa using this
  have KR : (((w.alloc (.cells #[.bool true, .slice A1 xf.length c1, .slice A2 xl.length c2] 54)).alloc (.cells #[.bool ny, .slice A3 yf.length c3, .slice A4 yl.length c4] 54)).alloc (.cells #[.bool false, .slice none 0 0, .slice none 0 0] 54)).heap[w.heap.size + 2]? = some (.cells #[.bool false, .slice none 0 0, .slice none 0 0] 54 (0, 0)) := by
   have := blk_new ((w.alloc (.cells #[.bool true, .slice A1 xf.length c1, .slice A2 xl.length c2] 54)).alloc (.cells #[.bool ny, .slice A3 yf.length c3, .slice A4 yl.length c4] 54)) (.cells #[.bool false, .slice none 0 0, .slice none 0 0] 54); simpa using this
  generalize ((w.alloc (.cells #[.bool true, .slice A1 xf.length c1, .slice A2 xl.length c2] 54)).alloc (.cells #[.bool ny, .slice A3 yf.length c3, .slice A4 yl.length c4] 54)).alloc (.cells #[.bool false, .slice none 0 0, .slice none 0 0] 54) = wA at HB2 KX KY KR ⊢
  have HBA := below_step HB.out HB2; have HBS := Lib.hid HB.out.size
  refine (link_calls k w0 wA g Z n syms rows rows' true ny A1 A2 A3 A4 xf.length c1 c2 c3 yl.length c4 xl yf (HBd.out.below HB2) HT.out HBA (Kd.V_below HXL.out HB2) (Kd.V_below HYF.out HB2) HLK.out).mono ?_
  rintro e w1 ⟨rfl, hbd, hbb, hkk⟩
  have HK0 : Kept w w1 Z := (Kept.of_below HB2 Z).then_ hkk (fun _ h => .inl h)
  have KX1 := blk_kept KX hkk (HZ.out _ (Nat.le_refl _)); have KY1 := blk_kept KY hkk (HZ.out _ (Nat.le_succ _)); have KR1 := blk_kept KR hkk (HZ.out _ (by omega))
  have HXF1 := Kd.V_bound (Kd.V_kept HXF.out HK0 (fun _ h1 h2 => h1 h2))
  have HXL1 := Kd.V_bound (Kd.V_kept HXL.out HK0 (fun _ h1 h2 => h1 h2))
  have HYF1 := Kd.V_bound (Kd.V_kept HYF.out HK0 (fun _ h1 h2 => h1 h2))
  have HYL1 := Kd.V_bound (Kd.V_kept HYL.out HK0 (fun _ h1 h2 => h1 h2))
  clear HXF HXL HYF HYL HBd HB HB2 HBA KX KY KR hkk HT HLK
  obtain ⟨x0, x1, x2, _, _, _⟩ := cells3 KX1; obtain ⟨y0, y1, y2, _, _, _⟩ := cells3 KY1
  have HK1 := Lib.hid HK0; have HBd1 := Lib.hid hbd; have HBB1 := Lib.hid hbb; clear HK0 hbd hbb
  replace KX1 := Lib.hid KX1; replace KY1 := Lib.hid KY1; replace KR1 := Lib.hid KR1; replace HXF1 := Lib.hid HXF1; replace HXL1 := Lib.hid HXL1; replace HYF1 := Lib.hid HYF1; replace HYL1 := Lib.hid HYL1
  have HGX := Lib.hid (blk_lt KR1.out)
  go_wp2_with (fail)
  refine start_ (n := 15) (S := fun w' => w'.cell? ⟨w.heap.size, 0, none⟩ = some (.bool true) ∧ w'.cell? ⟨w.heap.size, 1, none⟩ = some (.slice A1 xf.length c1) ∧ w'.cell? ⟨w.heap.size + 1, 0, none⟩ = some (.bool ny) ∧ w'.cell? ⟨w.heap.size + 1, 2, none⟩ = some (.slice A4 yl.length c4)) (ds := [14]) (S.um 15 0) (by kernel_rfl) rfl rfl ⟨x0, x1, y0, y2⟩ (fun hHeld => ?_); refine with_tabW RQ.tab RQ.bits (fun HT_ HW_ => ?_)
  replace HK1 : Hid (Kept w w1.drew Z) := HK1; replace HBd1 := Lib.hid (HBd1.out.below (below_drew1 (Below.refl w1.heap.size w1))); replace HBB1 := Lib.hid (below_drew1 HBB1.out)
  replace KX1 := Lib.hid (blk_drew KX1.out); replace KY1 := Lib.hid (blk_drew KY1.out); replace KR1 := Lib.hid (blk_drew KR1.out); replace HXF1 := Lib.hid (Kd.V_drew HXF1.out); replace HXL1 := Lib.hid (Kd.V_drew HXL1.out); replace HYF1 := Lib.hid (Kd.V_drew HYF1.out); replace HYL1 := Lib.hid (Kd.V_drew HYL1.out)
  have HSZ : Hid (w1.heap.size = w1.drew.heap.size) := Lib.hid rfl
  clear x0 x1 x2 y0 y1 y2
  generalize w1.drew = w2 at HK1 HBd1 HBB1 KX1 KY1 KR1 HXF1 HXL1 HYF1 HYL1 hHeld HSZ ⊢
  refine S.p 15 0 12 1 HT_.out rfl rfl ?_
  refine S.p 15 6 18 65 HT_.out rfl rfl ?_
  refine S.p 15 9 21 577 HT_.out rfl rfl ?_
  refine S.t 15 1 13 579 HT_.out HW_.out rfl rfl hHeld ?_
  refine S.p 15 2 14 583 HT_.out rfl rfl ?_
  refine S.p 15 3 15 591 HT_.out rfl rfl ?_
  refine S.t 15 4 16 607 HT_.out HW_.out rfl rfl hHeld ?_
  refine S.p 15 5 17 639 HT_.out rfl rfl ?_
  refine S.t 15 7 19 767 HT_.out HW_.out rfl rfl hHeld ?_
  refine S.t 15 10 22 1791 HT_.out HW_.out rfl rfl hHeld ?_
  refine join_ (σ := Option Addr × Nat × Option Addr × Nat × Nat) 1 (S.um 15 16383) (fun s_ => [(20, .slice s_.1 xf.length s_.2.1), (23, .slice s_.2.2.1 yl.length s_.2.2.2.1), (24, .agg #[.bool ny, .slice s_.1 xf.length s_.2.1, .slice s_.2.2.1 yl.length s_.2.2.2.1]), (7, .pointer (some ⟨s_.2.2.2.2, 0, none⟩))]) (fun s_ w' => (w'.cell? ⟨w.heap.size, 0, none⟩ = some (.bool true) ∧ w'.cell? ⟨w.heap.size, 1, none⟩ = some (.slice A1 xf.length c1) ∧ w'.cell? ⟨w.heap.size + 1, 0, none⟩ = some (.bool ny) ∧ w'.cell? ⟨w.heap.size + 1, 2, none⟩ = some (.slice A4 yl.length c4)) ∧ Below w2.heap.size w2 w' ∧ w2.heap.size ≤ s_.2.2.2.2 ∧ w'.heap[s_.2.2.2.2]? = some (.cells #[.bool false, .slice none 0 0, .slice none 0 0] 54 (0, 0)) ∧ Kd.R KU 77 w' w2.heap.size (fun k => some k ≠ (Value.slice s_.2.2.1 yl.length s_.2.2.2.1).ownBlock) (.slice s_.1 xf.length s_.2.1) xf ∧ Kd.R KU 77 w' w2.heap.size (fun k => some k ≠ (Value.slice s_.1 xf.length s_.2.1).ownBlock) (.slice s_.2.2.1 yl.length s_.2.2.2.1) yl) ?_ ?_; rotate_left
  ·intro hCont
   have HL := Lib.hid (Below.refl w2.heap.size w2)
   refine two_ (i := 8) (j := 13) (Ni := some 20) (Nj := some 7) (S.um 15 2047) (S.um 15 9983) rfl rfl rfl rfl (two_of HT_.out (by kernel_rfl)) (by decide) (by decide) (fun K hK => ?_) (fun K hK => ?_)
   ·have HLO5 := Lib.hid HL.out.size
    refine S.g Tryd.func46 #[.slice A1 xf.length c1] rfl rfl ?_; (with_reducible refine (slices_Clone_set.calls A1 c1 xf xf w2 (Kd.F_now (Kd.V_at (Kd.V_below HXF1.out HL.out)).2.2) (Kd.V_at HXF1.out).2.1 HCF.out).mono ?_); rintro e w3 ⟨v5, rfl, hv5, hb⟩; obtain ⟨A5, c5, rfl⟩ := Kd.R_slice hv5; refine ⟨_, rfl, ?_⟩
    have HV5 := Lib.hid hv5; clear hv5; replace HL := Lib.hid (below_step HL.out hb)
    refine hK.out _ _ ⟨cell_below hHeld.1 hb, cell_below hHeld.2.1 hb, cell_below hHeld.2.2.1 hb, cell_below hHeld.2.2.2 hb⟩ (fun hHeld => ?_); clear hK K hb; refine S.w 20 ?_
    refine two_ (i := 11) (j := 13) (Ni := some 23) (Nj := some 7) (S.um 15 4095) (S.um 15 10239) rfl rfl rfl rfl (two_of HT_.out (by kernel_rfl)) (by decide) (by decide) (fun K hK => ?_) (fun K hK => ?_)
    ·skip
     refine S.g Tryd.func46 #[.slice A4 yl.length c4] rfl rfl ?_; (with_reducible refine (slices_Clone_set.calls A4 c4 yl yl w3 (Kd.F_now (Kd.V_at (Kd.V_below HYL1.out HL.out)).2.2) (Kd.V_at HYL1.out).2.1 HCL.out).mono ?_); rintro e w4 ⟨v6, rfl, hv6, hb⟩; obtain ⟨A6, c6, rfl⟩ := Kd.R_slice hv6; refine ⟨_, rfl, ?_⟩
     have HAP := Lib.hid (fun (q : Nat) (h1 : some q = (Value.slice A5 xf.length c5).ownBlock) (h2 : some q = (Value.slice A6 yl.length c6).ownBlock) => (Nat.lt_irrefl q (Nat.lt_of_lt_of_le (Kd.R_lt HV5.out q h1.symm) (Kd.R_base hv6 q h2.symm)) : False))
     have HV6 := Lib.hid (Kd.R_lower hv6 HL.out.size); replace HV5 := Lib.hid (Kd.R_below HV5.out hb); clear hv6; replace HL := Lib.hid (below_step HL.out hb)
     refine hK.out _ _ ⟨cell_below hHeld.1 hb, cell_below hHeld.2.1 hb, cell_below hHeld.2.2.1 hb, cell_below hHeld.2.2.2 hb⟩ (fun hHeld => ?_); clear hK K hb; refine S.w 23 ?_
     refine S.p 15 12 24 8191 HT_.out rfl rfl ?_
     refine S.o 15 13 7 16383 HT_.out rfl rfl (fun K hK => ?_)
     refine box_step ?hg (N := 7) ?hd (cs := #[.bool false, .slice none 0 0, .slice none 0 0]) (t := 54) ?hr ?_; (case hd => rfl); (case hg => rfl); (case hr => first | (go_simp; done) | (go_simp; rfl)); intro g7 hg w5 hbox hb
     have HGE := Lib.hid (Nat.le_trans HL.out.size (Nat.le_of_eq hg.symm)); have HG7 := Lib.hid hbox; replace HL := Lib.hid (below_step HL.out hb); replace HV5 := Lib.hid (Kd.R_below HV5.out hb); replace HV6 := Lib.hid (Kd.R_below HV6.out hb)
     refine hK.out _ _ ⟨cell_below hHeld.1 hb, cell_below hHeld.2.1 hb, cell_below hHeld.2.2.1 hb, cell_below hHeld.2.2.2 hb⟩ (fun hHeld => ?_); clear hK K hb hbox hg; refine S.w 7 ?_
     exact norm_ (by simp only [putAll, Act.put, List.setIfInBounds_toArray, List.set_cons_zero, List.set_cons_succ]) (hCont (A5, c5, A6, c6, g7) _ ⟨hHeld, HL.out, HGE.out, HG7.out, Kd.R_mono (Kd.R_tight rfl (Kd.R_lower HV5.out HLO5.out)) (fun q h1 h2 => HAP.out q h1 h2), Kd.R_mono (Kd.R_tight rfl HV6.out) (fun q h1 h2 => HAP.out q h2 h1)⟩)
    ·skip
     refine box_step ?hg (N := 7) ?hd (cs := #[.bool false, .slice none 0 0, .slice none 0 0]) (t := 54) ?hr ?_; (case hd => rfl); (case hg => rfl); (case hr => first | (go_simp; done) | (go_simp; rfl)); intro g7 hg w4 hbox hb
     have HGE := Lib.hid (Nat.le_trans HL.out.size (Nat.le_of_eq hg.symm)); have HG7 := Lib.hid hbox; replace HL := Lib.hid (below_step HL.out hb); replace HV5 := Lib.hid (Kd.R_below HV5.out hb)
     refine hK.out _ _ ⟨cell_below hHeld.1 hb, cell_below hHeld.2.1 hb, cell_below hHeld.2.2.1 hb, cell_below hHeld.2.2.2 hb⟩ (fun hHeld => ?_); clear hK K hb hbox hg; refine S.w 7 ?_
     refine S.o 15 11 23 12287 HT_.out rfl rfl (fun K hK => ?_)
     refine S.g Tryd.func46 #[.slice A4 yl.length c4] rfl rfl ?_; (with_reducible refine (slices_Clone_set.calls A4 c4 yl yl w4 (Kd.F_now (Kd.V_at (Kd.V_below HYL1.out HL.out)).2.2) (Kd.V_at HYL1.out).2.1 HCL.out).mono ?_); rintro e w5 ⟨v6, rfl, hv6, hb⟩; obtain ⟨A6, c6, rfl⟩ := Kd.R_slice hv6; refine ⟨_, rfl, ?_⟩
     have HAP := Lib.hid (fun (q : Nat) (h1 : some q = (Value.slice A5 xf.length c5).ownBlock) (h2 : some q = (Value.slice A6 yl.length c6).ownBlock) => (Nat.lt_irrefl q (Nat.lt_of_lt_of_le (Kd.R_lt HV5.out q h1.symm) (Kd.R_base hv6 q h2.symm)) : False))
     have HV6 := Lib.hid (Kd.R_lower hv6 HL.out.size); replace HV5 := Lib.hid (Kd.R_below HV5.out hb); clear hv6; replace HL := Lib.hid (below_step HL.out hb); replace HG7 := Lib.hid (blk_below HG7.out hb)
     refine hK.out _ _ ⟨cell_below hHeld.1 hb, cell_below hHeld.2.1 hb, cell_below hHeld.2.2.1 hb, cell_below hHeld.2.2.2 hb⟩ (fun hHeld => ?_); clear hK K hb; refine S.w 23 ?_
     refine S.p 15 12 24 16383 HT_.out rfl rfl ?_
     exact norm_ (by simp only [putAll, Act.put, List.setIfInBounds_toArray, List.set_cons_zero, List.set_cons_succ]) (hCont (A5, c5, A6, c6, g7) _ ⟨hHeld, HL.out, HGE.out, HG7.out, Kd.R_mono (Kd.R_tight rfl (Kd.R_lower HV5.out HLO5.out)) (fun q h1 h2 => HAP.out q h1 h2), Kd.R_mono (Kd.R_tight rfl HV6.out) (fun q h1 h2 => HAP.out q h2 h1)⟩)
   ·skip
    refine box_step ?hg (N := 7) ?hd (cs := #[.bool false, .slice none 0 0, .slice none 0 0]) (t := 54) ?hr ?_; (case hd => rfl); (case hg => rfl); (case hr => first | (go_simp; done) | (go_simp; rfl)); intro g7 hg w3 hbox hb
    have HGE := Lib.hid (Nat.le_trans HL.out.size (Nat.le_of_eq hg.symm)); have HG7 := Lib.hid hbox; replace HL := Lib.hid (below_step HL.out hb)
    refine hK.out _ _ ⟨cell_below hHeld.1 hb, cell_below hHeld.2.1 hb, cell_below hHeld.2.2.1 hb, cell_below hHeld.2.2.2 hb⟩ (fun hHeld => ?_); clear hK K hb hbox hg; refine S.w 7 ?_
    have HLO5 := Lib.hid HL.out.size
    refine S.o 15 8 20 10239 HT_.out rfl rfl (fun K hK => ?_)
    refine S.g Tryd.func46 #[.slice A1 xf.length c1] rfl rfl ?_; (with_reducible refine (slices_Clone_set.calls A1 c1 xf xf w3 (Kd.F_now (Kd.V_at (Kd.V_below HXF1.out HL.out)).2.2) (Kd.V_at HXF1.out).2.1 HCF.out).mono ?_); rintro e w4 ⟨v5, rfl, hv5, hb⟩; obtain ⟨A5, c5, rfl⟩ := Kd.R_slice hv5; refine ⟨_, rfl, ?_⟩
    have HV5 := Lib.hid hv5; clear hv5; replace HL := Lib.hid (below_step HL.out hb); replace HG7 := Lib.hid (blk_below HG7.out hb)
    refine hK.out _ _ ⟨cell_below hHeld.1 hb, cell_below hHeld.2.1 hb, cell_below hHeld.2.2.1 hb, cell_below hHeld.2.2.2 hb⟩ (fun hHeld => ?_); clear hK K hb; refine S.w 20 ?_
    refine S.o 15 11 23 12287 HT_.out rfl rfl (fun K hK => ?_)
    refine S.g Tryd.func46 #[.slice A4 yl.length c4] rfl rfl ?_; (with_reducible refine (slices_Clone_set.calls A4 c4 yl yl w4 (Kd.F_now (Kd.V_at (Kd.V_below HYL1.out HL.out)).2.2) (Kd.V_at HYL1.out).2.1 HCL.out).mono ?_); rintro e w5 ⟨v6, rfl, hv6, hb⟩; obtain ⟨A6, c6, rfl⟩ := Kd.R_slice hv6; refine ⟨_, rfl, ?_⟩
    have HAP := Lib.hid (fun (q : Nat) (h1 : some q = (Value.slice A5 xf.length c5).ownBlock) (h2 : some q = (Value.slice A6 yl.length c6).ownBlock) => (Nat.lt_irrefl q (Nat.lt_of_lt_of_le (Kd.R_lt HV5.out q h1.symm) (Kd.R_base hv6 q h2.symm)) : False))
    have HV6 := Lib.hid (Kd.R_lower hv6 HL.out.size); replace HV5 := Lib.hid (Kd.R_below HV5.out hb); clear hv6; replace HL := Lib.hid (below_step HL.out hb); replace HG7 := Lib.hid (blk_below HG7.out hb)
    refine hK.out _ _ ⟨cell_below hHeld.1 hb, cell_below hHeld.2.1 hb, cell_below hHeld.2.2.1 hb, cell_below hHeld.2.2.2 hb⟩ (fun hHeld => ?_); clear hK K hb; refine S.w 23 ?_
    refine S.p 15 12 24 16383 HT_.out rfl rfl ?_
    exact norm_ (by simp only [putAll, Act.put, List.setIfInBounds_toArray, List.set_cons_zero, List.set_cons_succ]) (hCont (A5, c5, A6, c6, g7) _ ⟨hHeld, HL.out, HGE.out, HG7.out, Kd.R_mono (Kd.R_tight rfl (Kd.R_lower HV5.out HLO5.out)) (fun q h1 h2 => HAP.out q h1 h2), Kd.R_mono (Kd.R_tight rfl HV6.out) (fun q h1 h2 => HAP.out q h2 h1)⟩)
  rintro ⟨A5, c5, A6, c6, g7⟩ w5 ⟨hHeld, hl_, hg_, hz_, h5_, h6_⟩; dsimp only at hHeld hl_ hg_ hz_ h5_ h6_
  have HL := Lib.hid hl_; have HGE := Lib.hid hg_; have HG7 := Lib.hid hz_; have HV5 := Lib.hid h5_; have HV6 := Lib.hid h6_; clear hl_ hg_ hz_ h5_ h6_
  refine norm_ (a' := ?_) ?_ ?_; rotate_left
  ·simp only [putAll, Act.put, List.setIfInBounds_toArray, List.set_cons_zero, List.set_cons_succ]; rfl
  refine last_ (i := 14) (N := none) (S.um 15 32767) rfl rfl (one_of HT_.out (by kernel_rfl)) (by decide) (fun K hK => ?_)
  obtain ⟨z0, z1, z2, f0, f1, f2⟩ := cells3 HG7.out
  refine skip_ (w1 := ?_) (by rfl) rfl ?_ ?_; rotate_left
  ·go_simp; rfl
  clear z0 z1 z2 f0 f1 f2 hHeld
  refine hK.out _ _ ?_; clear hK K
  refine done_ (done_of HT_.out (by kernel_rfl)) ?_; clear HT_ HW_
  have hs7 := st3_self (w := w5) (g := g7) (.bool ny) (.slice A5 xf.length c5) (.slice A6 yl.length c6)
  have K7 : (st3 w5 g7 (.bool ny) (.slice A5 xf.length c5) (.slice A6 yl.length c6)).heap[g7]? = some (.cells #[.bool ny, .slice A5 xf.length c5, .slice A6 yl.length c6] 54 (0, 0)) := st3_blk HG7.out
  have hb7 := st3_below (g := g7) HL.out HGE.out (.bool ny) (.slice A5 xf.length c5) (.slice A6 yl.length c6)
  have hk7 : Kept w2 (st3 w5 g7 (.bool ny) (.slice A5 xf.length c5) (.slice A6 yl.length c6)) (fun _ => False) := st3_kept (S := fun _ => False) (Kept.of_below HL.out _) (.inr HGE.out) (.bool ny) (.slice A5 xf.length c5) (.slice A6 yl.length c6)
  have R5 := Kd.R_kept (Kd.R_mono (Kd.R_types (Kd.R_tight rfl HV5.out) HG7.out (by decide)) (ok' := fun k => some k = (Value.slice A5 xf.length c5).ownBlock ∧ k ≠ g7) (fun _ h => h)) hs7 (fun k h1 h2 => h1.2 h2)
  have R6 := Kd.R_kept (Kd.R_mono (Kd.R_types (Kd.R_tight rfl HV6.out) HG7.out (by decide)) (ok' := fun k => some k = (Value.slice A6 yl.length c6).ownBlock ∧ k ≠ g7) (fun _ h => h)) hs7 (fun k h1 h2 => h1.2 h2)
  have HNE := Lib.hid (fun (q : Nat) (h1 : some q = (Value.slice A5 xf.length c5).ownBlock) (h2 : some q = (Value.slice A6 yl.length c6).ownBlock) => (HV5.out.1 q h1.symm h2 : False))
  replace R5 := Kd.R_mono (Kd.R_tight rfl R5) (ok' := fun k => some k = (Value.slice A5 xf.length c5).ownBlock) (fun _ h => h); replace R6 := Kd.R_mono (Kd.R_tight rfl R6) (ok' := fun k => some k = (Value.slice A6 yl.length c6).ownBlock) (fun _ h => h)
  generalize hw6 : st3 w5 g7 (.bool ny) (.slice A5 xf.length c5) (.slice A6 yl.length c6) = w6 at hs7 K7 hb7 hk7 R5 R6
  have hw6' : ((w5.setCell ⟨g7, 0, none⟩ (.bool ny)).setCell ⟨g7, 1, none⟩ (.slice A5 xf.length c5)).setCell ⟨g7, 2, none⟩ (.slice A6 yl.length c6) = w6 := hw6
  rw [hw6']; clear hw6 hw6' hs7 HV5 HV6 HG7 HL
  have KX6 := Lib.hid (blk_below KX1.out hb7); have KY6 := Lib.hid (blk_below KY1.out hb7); have KR6 := Lib.hid (blk_below KR1.out hb7); have XL6 := Lib.hid (Kd.V_below HXL1.out hb7); have YF6 := Lib.hid (Kd.V_below HYF1.out hb7)
  have B6 := Lib.hid (HBd1.out.below hb7); have BB6 := Lib.hid (below_step HBB1.out hb7); have HKW6 := Lib.hid ((HK1.out).below hb7); have HK7 := Lib.hid K7; have HR5 := Lib.hid R5; have HR6 := Lib.hid R6; have HSZ2 := Lib.hid (HBB1.out.size); have HZL := Lib.hid (fun (q : Nat) (hz : Z q) => (HBd1.out.2.2 q hz).2); have HWL := Lib.hid (Nat.le_trans (Nat.le_add_right _ 2) (Nat.le_of_lt (Nat.lt_of_lt_of_eq HGX.out HSZ.out))); clear R5 R6 K7 hb7 hk7 KX1 KY1 KR1 HXF1 HXL1 HYF1 HYL1 HBd1 HBB1 HK1 HCF HCL
  clear HGE
  have HLTX := Lib.hid (Nat.lt_of_lt_of_eq (Nat.lt_of_le_of_lt (Nat.le_add_right _ 2) HGX.out) HSZ.out); have HLTY := Lib.hid (Nat.lt_of_lt_of_eq (Nat.lt_of_le_of_lt (by omega : w.heap.size + 1 ≤ w.heap.size + 2) HGX.out) HSZ.out); have HLTR := Lib.hid (Nat.lt_of_lt_of_eq HGX.out HSZ.out); clear HGX
  replace XL6 := Lib.hid (Kd.V_mono XL6.out (ok' := fun q => ¬ Z q ∧ q < w2.heap.size) (fun q h => ⟨h.1, Nat.lt_of_lt_of_eq h.2 HSZ.out⟩)); replace YF6 := Lib.hid (Kd.V_mono YF6.out (ok' := fun q => ¬ Z q ∧ q < w2.heap.size) (fun q h => ⟨h.1, Nat.lt_of_lt_of_eq h.2 HSZ.out⟩))
  cases ny
  case false =>
   obtain ⟨x0, x1, x2, _, _, _⟩ := cells3 KX6.out; obtain ⟨y0, y1, y2, _, _, _⟩ := cells3 KY6.out; obtain ⟨s0, s1, s2, _, _, _⟩ := cells3 HK7.out; obtain ⟨r0, r1, r2, f0, f1, f2⟩ := cells3 KR6.out
   go_wp2_with (fail)
   clear x0 x1 x2 y0 y1 y2 s0 s1 s2 r0 r1 r2 f0 f1 f2
   have hj : Pr.glush_set_join.f k xf yf = some f := by have h_ := HJ1.out; simpa using h_
   (with_reducible refine (Pr.glush_set_join.calls k (fun q => some q = (Value.slice A5 xf.length c5).ownBlock) (.slice A5 xf.length c5) xf A3 c3 yf f w0 w6 BB6.out (Kd.R_lower HR5.out HSZ2.out) ?hr1 (Kd.V_at YF6.out).2.1 hj).mono ?_)
   case hr1 => exact fun W_ hk => Kd.F_now (Kd.V_at (Kd.V_kept YF6.out hk (fun q h1 h2 => Nat.lt_irrefl q (Nat.lt_of_lt_of_le h1.2 (Kd.R_base HR5.out q h2.symm))))).2.2
   rintro e w7 ⟨rfl, hr, hb, hk⟩
   have hlen := (Kd.R_reads' hr).1
   have hge : ∀ q, some q = (Value.slice A5 xf.length c5).ownBlock → w2.heap.size ≤ q := fun q h => Kd.R_base HR5.out q h.symm
   have KX7 := Lib.hid (blk_kept KX6.out hk (fun h => Nat.lt_irrefl _ (Nat.lt_of_lt_of_le HLTX.out (hge _ h)))); have KY7 := Lib.hid (blk_kept KY6.out hk (fun h => Nat.lt_irrefl _ (Nat.lt_of_lt_of_le HLTY.out (hge _ h)))); have KR7 := Lib.hid (blk_kept KR6.out hk (fun h => Nat.lt_irrefl _ (Nat.lt_of_lt_of_le HLTR.out (hge _ h)))); have HK77 := Lib.hid (blk_kept HK7.out hk (fun h => Kd.R_ne HR5.out HK7.out (by decide) h))
   have HR6n := Lib.hid (Kd.R_kept HR6.out hk (fun q h1 h2 => HNE.out q h2 h1)); clear HR6; have HR6 := HR6n; clear HR6n
   have XL7 := Lib.hid (Kd.V_kept XL6.out hk (fun q h1 h2 => Nat.lt_irrefl q (Nat.lt_of_lt_of_le h1.2 (hge q h2)))); have YF7 := Lib.hid (Kd.V_kept YF6.out hk (fun q h1 h2 => Nat.lt_irrefl q (Nat.lt_of_lt_of_le h1.2 (hge q h2))))
   have B7 := Lib.hid (B6.out.kept hk (fun q h1 h2 => Nat.lt_irrefl q (Nat.lt_of_lt_of_le (HZL.out q h1) (hge q h2)))); have HKW7 := Lib.hid (HKW6.out.then_ hk (fun q h => .inr (Nat.le_trans HWL.out (hge q h)))); have BB7 := Lib.hid hb
   have HRN := Lib.hid (Kd.R_tight rfl hr); have HGEN := Lib.hid hge; have HLEN5 := Lib.hid hlen; clear hr hb hk hlen hge hj HR5 KX6 KY6 KR6 HK7 XL6 YF6 B6 HKW6 BB6; have HR5 := HRN; clear HRN; have HG5 := HGEN; clear HGEN
   obtain ⟨x0, x1, x2, _, _, _⟩ := cells3 KX7.out; obtain ⟨y0, y1, y2, _, _, _⟩ := cells3 KY7.out; obtain ⟨s0, s1, s2, _, _, _⟩ := cells3 HK77.out; obtain ⟨r0, r1, r2, f0, f1, f2⟩ := cells3 KR7.out
   go_wp2_with (fail)
   refine bodyPost_ret (results_cell_row rfl _ _ (w.heap.size + 2) 54 #[.bool false, .slice A5 xf.length c5, .slice A6 yl.length c6] (0, 0) _ rfl (st3_blk KR7.out) Tryd.underlying54 rfl (by kernel_rfl)) rfl ?_
   have hs := st3_self (w := w7) (g := w.heap.size + 2) (.bool false) (.slice A5 xf.length c5) (.slice A6 yl.length c6)
   have e5 : xf.length = f.length := HLEN5.out
   have e6 : yl = l := Option.some.inj ((if_neg (by decide)).symm.trans HJ2.out)
   have V5 := Kd.R_kept (Kd.R_mono (Kd.R_types HR5.out KR7.out (by decide)) (ok' := fun k => w.heap.size ≤ k ∧ k ≠ w.heap.size + 2) (fun k h => ⟨Nat.le_trans HWL.out (HG5.out k h.1), h.2⟩)) hs (fun k h1 h2 => h1.2 h2)
   have V6 := Kd.R_kept (Kd.R_mono (Kd.R_types HR6.out KR7.out (by decide)) (ok' := fun k => w.heap.size ≤ k ∧ k ≠ w.heap.size + 2) (fun k h => ⟨Nat.le_trans HWL.out (Kd.R_base HR6.out k h.1.symm), h.2⟩)) hs (fun k h1 h2 => h1.2 h2)
   subst e6
   exact ⟨A5, c5, A6, c6, by (try rw [e5]); (try rfl), R_len e5 (R_up V5 (fun k h => h.1)), R_up V6 (fun k h => h.1), B7.out.kept hs (fun q h1 h2 => HZ.out _ (h2 ▸ Nat.le_add_right _ 2) h1), st3_below BB7.out (Nat.le_trans HBS.out (Nat.le_add_right _ 2)) _ _ _, st3_kept HKW7.out (.inr (Nat.le_add_right _ 2)) _ _ _⟩
  case true =>
   obtain ⟨x0, x1, x2, _, _, _⟩ := cells3 KX6.out; obtain ⟨y0, y1, y2, _, _, _⟩ := cells3 KY6.out; obtain ⟨s0, s1, s2, _, _, _⟩ := cells3 HK7.out; obtain ⟨r0, r1, r2, f0, f1, f2⟩ := cells3 KR6.out
   go_wp2_with (fail)
   clear x0 x1 x2 y0 y1 y2 s0 s1 s2 r0 r1 r2 f0 f1 f2
   have hj : Pr.glush_set_join.f k xf yf = some f := by have h_ := HJ1.out; simpa using h_
   (with_reducible refine (Pr.glush_set_join.calls k (fun q => some q = (Value.slice A5 xf.length c5).ownBlock) (.slice A5 xf.length c5) xf A3 c3 yf f w0 w6 BB6.out (Kd.R_lower HR5.out HSZ2.out) ?hr1 (Kd.V_at YF6.out).2.1 hj).mono ?_)
   case hr1 => exact fun W_ hk => Kd.F_now (Kd.V_at (Kd.V_kept YF6.out hk (fun q h1 h2 => Nat.lt_irrefl q (Nat.lt_of_lt_of_le h1.2 (Kd.R_base HR5.out q h2.symm))))).2.2
   rintro e w7 ⟨rfl, hr, hb, hk⟩
   have hlen := (Kd.R_reads' hr).1
   have hge : ∀ q, some q = (Value.slice A5 xf.length c5).ownBlock → w2.heap.size ≤ q := fun q h => Kd.R_base HR5.out q h.symm
   have KX7 := Lib.hid (blk_kept KX6.out hk (fun h => Nat.lt_irrefl _ (Nat.lt_of_lt_of_le HLTX.out (hge _ h)))); have KY7 := Lib.hid (blk_kept KY6.out hk (fun h => Nat.lt_irrefl _ (Nat.lt_of_lt_of_le HLTY.out (hge _ h)))); have KR7 := Lib.hid (blk_kept KR6.out hk (fun h => Nat.lt_irrefl _ (Nat.lt_of_lt_of_le HLTR.out (hge _ h)))); have HK77 := Lib.hid (blk_kept HK7.out hk (fun h => Kd.R_ne HR5.out HK7.out (by decide) h))
   have HR6n := Lib.hid (Kd.R_kept HR6.out hk (fun q h1 h2 => HNE.out q h2 h1)); clear HR6; have HR6 := HR6n; clear HR6n
   have XL7 := Lib.hid (Kd.V_kept XL6.out hk (fun q h1 h2 => Nat.lt_irrefl q (Nat.lt_of_lt_of_le h1.2 (hge q h2)))); have YF7 := Lib.hid (Kd.V_kept YF6.out hk (fun q h1 h2 => Nat.lt_irrefl q (Nat.lt_of_lt_of_le h1.2 (hge q h2))))
   have B7 := Lib.hid (B6.out.kept hk (fun q h1 h2 => Nat.lt_irrefl q (Nat.lt_of_lt_of_le (HZL.out q h1) (hge q h2)))); have HKW7 := Lib.hid (HKW6.out.then_ hk (fun q h => .inr (Nat.le_trans HWL.out (hge q h)))); have BB7 := Lib.hid hb
   have HRN := Lib.hid (Kd.R_tight rfl hr); have HGEN := Lib.hid hge; have HLEN5 := Lib.hid hlen; clear hr hb hk hlen hge hj HR5 KX6 KY6 KR6 HK7 XL6 YF6 B6 HKW6 BB6; have HR5 := HRN; clear HRN; have HG5 := HGEN; clear HGEN
   obtain ⟨x0, x1, x2, _, _, _⟩ := cells3 KX7.out; obtain ⟨y0, y1, y2, _, _, _⟩ := cells3 KY7.out; obtain ⟨s0, s1, s2, _, _, _⟩ := cells3 HK77.out; obtain ⟨r0, r1, r2, f0, f1, f2⟩ := cells3 KR7.out
   go_wp2_with (fail)
   clear x0 x1 x2 y0 y1 y2 s0 s1 s2 r0 r1 r2 f0 f1 f2
   have hj : Pr.glush_set_join.f k yl xl = some l := by have h_ := HJ2.out; simpa using h_
   (with_reducible refine (Pr.glush_set_join.calls k (fun q => some q = (Value.slice A6 yl.length c6).ownBlock) (.slice A6 yl.length c6) yl A2 c2 xl l w0 w7 BB7.out (Kd.R_lower HR6.out HSZ2.out) ?hr1 (Kd.V_at XL7.out).2.1 hj).mono ?_)
   case hr1 => exact fun W_ hk => Kd.F_now (Kd.V_at (Kd.V_kept XL7.out hk (fun q h1 h2 => Nat.lt_irrefl q (Nat.lt_of_lt_of_le h1.2 (Kd.R_base HR6.out q h2.symm))))).2.2
   rintro e w8 ⟨rfl, hr, hb, hk⟩
   have hlen := (Kd.R_reads' hr).1
   have hge : ∀ q, some q = (Value.slice A6 yl.length c6).ownBlock → w2.heap.size ≤ q := fun q h => Kd.R_base HR6.out q h.symm
   have KX8 := Lib.hid (blk_kept KX7.out hk (fun h => Nat.lt_irrefl _ (Nat.lt_of_lt_of_le HLTX.out (hge _ h)))); have KY8 := Lib.hid (blk_kept KY7.out hk (fun h => Nat.lt_irrefl _ (Nat.lt_of_lt_of_le HLTY.out (hge _ h)))); have KR8 := Lib.hid (blk_kept KR7.out hk (fun h => Nat.lt_irrefl _ (Nat.lt_of_lt_of_le HLTR.out (hge _ h)))); have HK78 := Lib.hid (blk_kept HK77.out hk (fun h => Kd.R_ne HR6.out HK77.out (by decide) h))
   have HR5n := Lib.hid (Kd.R_kept HR5.out hk (fun q h1 h2 => HNE.out q h1 h2)); clear HR5; have HR5 := HR5n; clear HR5n
   have XL8 := Lib.hid (Kd.V_kept XL7.out hk (fun q h1 h2 => Nat.lt_irrefl q (Nat.lt_of_lt_of_le h1.2 (hge q h2)))); have YF8 := Lib.hid (Kd.V_kept YF7.out hk (fun q h1 h2 => Nat.lt_irrefl q (Nat.lt_of_lt_of_le h1.2 (hge q h2))))
   have B8 := Lib.hid (B7.out.kept hk (fun q h1 h2 => Nat.lt_irrefl q (Nat.lt_of_lt_of_le (HZL.out q h1) (hge q h2)))); have HKW8 := Lib.hid (HKW7.out.then_ hk (fun q h => .inr (Nat.le_trans HWL.out (hge q h)))); have BB8 := Lib.hid hb
   have HRN := Lib.hid (Kd.R_tight rfl hr); have HGEN := Lib.hid hge; have HLEN6 := Lib.hid hlen; clear hr hb hk hlen hge hj HR6 KX7 KY7 KR7 HK77 XL7 YF7 B7 HKW7 BB7; have HR6 := HRN; clear HRN; have HG6 := HGEN; clear HGEN
   obtain ⟨x0, x1, x2, _, _, _⟩ := cells3 KX8.out; obtain ⟨y0, y1, y2, _, _, _⟩ := cells3 KY8.out; obtain ⟨s0, s1, s2, _, _, _⟩ := cells3 HK78.out; obtain ⟨r0, r1, r2, f0, f1, f2⟩ := cells3 KR8.out
   go_wp2_with (fail)
   refine bodyPost_ret (results_cell_row rfl _ _ (w.heap.size + 2) 54 #[.bool true, .slice A5 xf.length c5, .slice A6 yl.length c6] (0, 0) _ rfl (st3_blk KR8.out) Tryd.underlying54 rfl (by kernel_rfl)) rfl ?_
   have hs := st3_self (w := w8) (g := w.heap.size + 2) (.bool true) (.slice A5 xf.length c5) (.slice A6 yl.length c6)
   have e5 : xf.length = f.length := HLEN5.out
   have e6 : yl.length = l.length := HLEN6.out
   have V5 := Kd.R_kept (Kd.R_mono (Kd.R_types HR5.out KR8.out (by decide)) (ok' := fun k => w.heap.size ≤ k ∧ k ≠ w.heap.size + 2) (fun k h => ⟨Nat.le_trans HWL.out (HG5.out k h.1), h.2⟩)) hs (fun k h1 h2 => h1.2 h2)
   have V6 := Kd.R_kept (Kd.R_mono (Kd.R_types HR6.out KR8.out (by decide)) (ok' := fun k => w.heap.size ≤ k ∧ k ≠ w.heap.size + 2) (fun k h => ⟨Nat.le_trans HWL.out (HG6.out k h.1), h.2⟩)) hs (fun k h1 h2 => h1.2 h2)
   exact ⟨A5, c5, A6, c6, by (try rw [e5]); (try rw [e6]); (try rfl), R_len e5 (R_up V5 (fun k h => h.1)), R_len e6 (R_up V6 (fun k h => h.1)), B8.out.kept hs (fun q h1 h2 => HZ.out _ (h2 ▸ Nat.le_add_right _ 2) h1), st3_below BB8.out (Nat.le_trans HBS.out (Nat.le_add_right _ 2)) _ _ _, st3_kept HKW8.out (.inr (Nat.le_add_right _ 2)) _ _ _⟩
end Go.Proofs.YthocjdlcopmhiaaDoor.G
namespace Go.Proofs.YthocjdlcopmhiaaDoor.G
open Go.RowKit Go.Proofs.YthocjdlcopmhiaaDoorW.PrintWords Go.Proofs.YthocjdlcopmhiaaDoorW.PrintLast Go.Proofs.YthocjdlcopmhiaaDoorW.PrintMore
attribute [local go_sem] max2_int min2_int max_two min_two max_three min_three max_four min_four
set_option linter.unusedVariables false
set_option linter.unusedSimpArgs false
def wd (s : List Int) (j : Nat) : Nat := (s.getD j 0).toNat
def Mem (s : List Int) (p : Nat) : Prop := (wd s (p / 64)).testBit (p % 64) = true
def Ok64 (s : List Int) : Prop := ∀ x ∈ s, 0 ≤ x ∧ x < 18446744073709551616
theorem Ok64.at {s : List Int} (h : Ok64 s) (j : Nat) : 0 ≤ s.getD j 0 ∧ s.getD j 0 < 18446744073709551616 := by
 rw [List.getD_eq_getElem?_getD]
 by_cases hj : j < s.length
 ·rw [List.getElem?_eq_getElem hj]; exact h _ (List.getElem_mem hj)
 ·rw [List.getElem?_eq_none (by omega)]; simp
theorem Ok64.wd_lt {s : List Int} (h : Ok64 s) (j : Nat) : wd s j < 18446744073709551616 := by
 have := h.at j
 unfold wd
 omega
theorem wd_out {s : List Int} {j : Nat} (h : s.length ≤ j) : wd s j = 0 := by unfold wd; rw [List.getD_eq_getElem?_getD, List.getElem?_eq_none h]; rfl
theorem bits_or_nat (a b : Nat) (ha : a < 18446744073709551616) (hb : b < 18446744073709551616) : bits .or .u64 (a : Int) (b : Int) = ((a ||| b : Nat) : Int) := by
 have hx : a ||| b < 2 ^ 64 := Nat.or_lt_two_pow (by omega) (by omega)
 have h1 : (BitVec.ofInt 64 (a : Int)).toNat = a := by
  rw [BitVec.ofInt_natCast, BitVec.toNat_ofNat]; exact Nat.mod_eq_of_lt (by omega)
 have h2 : (BitVec.ofInt 64 (b : Int)).toNat = b := by
  rw [BitVec.ofInt_natCast, BitVec.toNat_ofNat]; exact Nat.mod_eq_of_lt (by omega)
 show IntKind.u64.wrap ((BitVec.ofInt 64 (a : Int) ||| BitVec.ofInt 64 (b : Int)).toNat : Int) = _
 rw [BitVec.toNat_or, h1, h2, IntKind.wrap_u64]
 omega
theorem bits_or_int (x y : Int) (hx : 0 ≤ x ∧ x < 18446744073709551616) (hy : 0 ≤ y ∧ y < 18446744073709551616) : bits .or .u64 x y = ((x.toNat ||| y.toNat : Nat) : Int) := by
 obtain ⟨a, rfl⟩ : ∃ a : Nat, x = a := ⟨x.toNat, by omega⟩
 obtain ⟨b, rfl⟩ : ∃ b : Nat, y = b := ⟨y.toNat, by omega⟩
 rw [Int.toNat_natCast, Int.toNat_natCast]
 exact bits_or_nat a b (by omega) (by omega)
theorem or_ok (x y : Int) (hx : 0 ≤ x ∧ x < 18446744073709551616) (hy : 0 ≤ y ∧ y < 18446744073709551616) : 0 ≤ bits .or .u64 x y ∧ bits .or .u64 x y < 18446744073709551616 := by
 rw [bits_or_int x y hx hy]
 have : x.toNat ||| y.toNat < 2 ^ 64 := Nat.or_lt_two_pow (by omega) (by omega)
 omega
theorem set_at {s : List Int} {i j : Nat} {v : Int} (hi : i < s.length) : (s.set i v).getD j 0 = if j = i then v else s.getD j 0 := by
 rw [List.getD_eq_getElem?_getD, List.getD_eq_getElem?_getD, List.getElem?_set]
 by_cases h : i = j
 ·subst h; simp [hi]
 ·simp [h, Ne.symm h]
theorem Ok64.set {s : List Int} (h : Ok64 s) {i : Nat} {v : Int} (hv : 0 ≤ v ∧ v < 18446744073709551616) : Ok64 (s.set i v) := fun x hx => by
 rcases List.mem_or_eq_of_mem_set hx with h1 | h1
 ·exact h x h1
 ·rw [h1]; exact hv
theorem rd_getD (s : List Int) (i : Nat) : rd s (i : Int) = s.getD i 0 := by unfold rd; rw [Int.toNat_natCast]
theorem join_loop (b : List Int) (hb : Ok64 b) : ∀ (d k i : Nat) (s : List Int), Ok64 s → s.length ≤ b.length → s.length = i + d → d < k → s.length < 4611686018427387904 →
  ∃ r, Pr.glush_set_join.l0 k s b (s.length : Int) (i : Int) = some r ∧ r.length = s.length ∧ Ok64 r ∧ ∀ j, wd r j = if i ≤ j ∧ j < s.length then wd s j ||| wd b j else wd s j := by
 intro d
 induction d with
 | zero =>
  intro k i s hs hl he hk hm
  obtain ⟨k, rfl⟩ : ∃ m, k = m + 1 := ⟨k - 1, by omega⟩
  refine ⟨s, ?_, rfl, hs, fun j => ?_⟩
  ·simp only [Pr.glush_set_join.l0]
   rw [if_neg (by omega)]
  ·rw [if_neg (by omega)]
 | succ d ih =>
  intro k i s hs hl he hk hm
  obtain ⟨k, rfl⟩ : ∃ m, k = m + 1 := ⟨k - 1, by omega⟩
  have hw : wrap64 ((i : Int) + 1) = ((i + 1 : Nat) : Int) := by unfold wrap64; omega
  have hv := or_ok (rd s i) (rd b i) (by rw [rd_getD]; exact hs.at i) (by rw [rd_getD]; exact hb.at i)
  obtain ⟨r, hr, hrl, hro, hrw⟩ := ih k (i + 1) (s.set i (bits .or .u64 (rd s i) (rd b i))) (hs.set hv) (by rw [List.length_set]; exact hl) (by rw [List.length_set]; omega) (by omega) (by rw [List.length_set]; exact hm)
  rw [List.length_set] at hr hrl hrw
  refine ⟨r, ?_, hrl, hro, fun j => ?_⟩
  ·simp only [Pr.glush_set_join.l0]
   rw [if_pos (by omega), if_pos (by omega), if_pos (by omega), if_pos (by omega), hw, Int.toNat_natCast]
   exact hr
  ·rw [hrw j]
   have hil : i < s.length := by omega
   have e1 : wd (s.set i (bits .or .u64 (rd s i) (rd b i))) j = if j = i then wd s i ||| wd b i else wd s j := by
    unfold wd
    rw [set_at hil]
    by_cases hj : j = i
    ·rw [if_pos hj, if_pos hj, rd_getD, rd_getD, bits_or_int _ _ (hs.at i) (hb.at i), Int.toNat_natCast]
    ·rw [if_neg hj, if_neg hj]
   rw [e1]
   by_cases hj : j = i
   ·subst hj
    rw [if_neg (by omega), if_pos rfl, if_pos (by omega)]
   ·rw [if_neg hj]
    by_cases h2 : i + 1 ≤ j ∧ j < s.length
    ·rw [if_pos h2, if_pos (by omega)]
    ·rw [if_neg h2, if_neg (by omega)]
theorem join_eq (k : Nat) (a b : List Int) (ha : Ok64 a) (hb : Ok64 b) (hl : a.length ≤ b.length) (hk : a.length < k) (hm : a.length < 4611686018427387904) :
  ∃ r, Pr.glush_set_join.f k a b = some r ∧ r.length = a.length ∧ Ok64 r ∧ ∀ p, p / 64 < a.length → (Mem r p ↔ Mem a p ∨ Mem b p) := by
 obtain ⟨r, h1, h2, h3, h4⟩ := join_loop b hb a.length k 0 a ha hl (by omega) hk hm
 refine ⟨r, h1, h2, h3, fun p hp => ?_⟩
 unfold Mem
 rw [h4 (p / 64), if_pos ⟨Nat.zero_le _, hp⟩, Nat.testBit_or, Bool.or_eq_true]
theorem clear_bit (x : Nat) (h0 : x ≠ 0) (h : x < 18446744073709551616) : Lib.ctz 64 x < 64 ∧ x.testBit (Lib.ctz 64 x) = true ∧ ∀ j, (x &&& (x - 1)).testBit j = (x.testBit j && !decide (j = Lib.ctz 64 x)) := by
 obtain ⟨m, hm, hk⟩ := Lib.ctzFrom_spec 64 x (by omega) h
 have e : Lib.ctz 64 x = Lib.ctzFrom 64 x := by simp [Lib.ctz, h0]
 rw [e]
 generalize Lib.ctzFrom 64 x = t at hm hk
 have hx : ∀ j, x.testBit j = (decide (j ≥ t) && (2 * m + 1).testBit (j - t)) := fun j => by rw [hm, Nat.testBit_two_pow_mul]
 have hp : 0 < 2 ^ t := Nat.two_pow_pos t
 have hx1 : x - 1 = 2 ^ t * (2 * m) + (2 ^ t - 1) := by
  rw [hm, Nat.mul_add, Nat.mul_one]; omega
 have hy : ∀ j, (x - 1).testBit j = if j < t then (2 ^ t - 1).testBit j else (2 * m).testBit (j - t) := fun j => by rw [hx1, Nat.testBit_two_pow_mul_add _ (by omega)]
 refine ⟨hk, ?_, fun j => ?_⟩
 ·rw [hx t]; simp
 ·rw [Nat.testBit_and, hx j, hy j]
  by_cases h1 : j < t
  ·have : ¬ j ≥ t := by omega
   simp [this]
  ·by_cases h2 : j = t
   ·subst h2; simp
   ·have h3 : j ≥ t := by omega
    obtain ⟨q, hq⟩ : ∃ q, j - t = q + 1 := ⟨j - t - 1, by omega⟩
    rw [if_neg h1, hq]
    have e1 : (2 * m + 1).testBit (q + 1) = m.testBit q := by rw [Nat.testBit_succ]; congr 1; omega
    have e2 : (2 * m).testBit (q + 1) = m.testBit q := by rw [Nat.testBit_succ]; congr 1; omega
    rw [e1, e2]
    simp [h3, h2]
theorem lt_pow64 {x j : Nat} (hx : x < 18446744073709551616) (hj : 64 ≤ j) : x < 2 ^ j := Nat.lt_of_lt_of_le hx (Nat.le_trans (Nat.le_of_eq (by decide : 18446744073709551616 = 2 ^ 64)) (Nat.pow_le_pow_right (by decide) hj))
theorem bits_and_int (x y : Int) (hx : 0 ≤ x ∧ x < 18446744073709551616) (hy : 0 ≤ y ∧ y < 18446744073709551616) : bits .and .u64 x y = ((x.toNat &&& y.toNat : Nat) : Int) := by
 obtain ⟨a, rfl⟩ : ∃ a : Nat, x = a := ⟨x.toNat, by omega⟩
 obtain ⟨b, rfl⟩ : ∃ b : Nat, y = b := ⟨y.toNat, by omega⟩
 rw [Int.toNat_natCast, Int.toNat_natCast]
 exact bits_and_u64_nat a b (by omega) (by omega)
theorem bits_loop (s : List Int) (n : Int) (i : Nat) (hi : i < 1099511627776) : ∀ (d b x : Nat) (out : List Int), x < 18446744073709551616 → (∀ j, j < b → x.testBit j = false) → 64 ≤ b + d → out.length + d < 17592186044416 →
  ∃ (L : List Int) (c : Nat), c ≤ d + 1 ∧ L.length ≤ d ∧ (∀ p : Int, p ∈ L ↔ ∃ j : Nat, p = ((i * 64 + j : Nat) : Int) ∧ x.testBit j = true) ∧
   ∀ k, Pr.glush_set_list.l1 (k + c) out (i : Int) (x : Int) s n (i : Int) = Pr.glush_set_list.l0 k (out ++ L) s n ((i + 1 : Nat) : Int) := by
 intro d
 have hw : wrap64 ((i : Int) + 1) = ((i + 1 : Nat) : Int) := by unfold wrap64; omega
 induction d with
 | zero =>
  intro b x out hx hb hd hl
  have h0 : x = 0 := by
   apply Nat.eq_of_testBit_eq
   intro j
   rw [Nat.zero_testBit]
   by_cases hj : j < b
   ·exact hb j hj
   ·exact Nat.testBit_lt_two_pow (lt_pow64 hx (by omega))
  subst h0
  refine ⟨[], 1, by omega, by simp, fun p => by simp, fun k => ?_⟩
  simp only [Pr.glush_set_list.l1]
  rw [if_pos (show ((0 : Nat) : Int) = 0 from rfl), hw, List.append_nil]
 | succ d ih =>
  intro b x out hx hb hd hl
  by_cases h0 : x = 0
  ·subst h0
   refine ⟨[], 1, by omega, by simp, fun p => by simp, fun k => ?_⟩
   simp only [Pr.glush_set_list.l1]
   rw [if_pos (show ((0 : Nat) : Int) = 0 from rfl), hw, List.append_nil]
  ·obtain ⟨ht, hbit, hclear⟩ := clear_bit x h0 hx
   have htb : b ≤ Lib.ctz 64 x := Nat.le_of_not_lt (fun h => by rw [hb _ h] at hbit; cases hbit)
   have hx2 : x &&& (x - 1) < 18446744073709551616 := Nat.lt_of_le_of_lt Nat.and_le_left hx
   obtain ⟨L, c, hc, hL, hmem, hrun⟩ := ih (Lib.ctz 64 x + 1) (x &&& (x - 1)) (out ++ [((i * 64 + Lib.ctz 64 x : Nat) : Int)]) hx2 (fun j hj => by
    rw [hclear j]
    by_cases h : j = Lib.ctz 64 x
    ·simp [h]
    ·have : x.testBit j = false := by
      obtain ⟨m, hm, _⟩ := Lib.ctzFrom_spec 64 x (by omega) hx
      have e : Lib.ctz 64 x = Lib.ctzFrom 64 x := by simp [Lib.ctz, h0]
      rw [hm, Nat.testBit_two_pow_mul]
      have : ¬ j ≥ Lib.ctzFrom 64 x := by rw [← e]; omega
      simp [this]
     simp [this]) (by omega) (by rw [List.length_append, List.length_singleton]; omega)
   refine ⟨((i * 64 + Lib.ctz 64 x : Nat) : Int) :: L, c + 1, by omega, by rw [List.length_cons]; omega, fun p => ?_, fun k => ?_⟩
   ·rw [List.mem_cons, hmem p]
    constructor
    ·rintro (rfl | ⟨j, hj, hb2⟩)
     ·exact ⟨_, rfl, hbit⟩
     ·rw [hclear j, Bool.and_eq_true] at hb2
      exact ⟨j, hj, hb2.1⟩
    ·rintro ⟨j, hj, hb2⟩
     by_cases h : j = Lib.ctz 64 x
     ·left; rw [hj, h]
     ·right
      refine ⟨j, hj, ?_⟩
      rw [hclear j, hb2]
      simp [h]
   ·rw [show k + (c + 1) = (k + c) + 1 by omega]
    simp only [Pr.glush_set_list.l1]
    rw [if_neg (by omega)]
    have e1 : bits_TrailingZeros64.f (x : Int) = some ((Lib.ctz 64 x : Nat) : Int) := by
     unfold bits_TrailingZeros64.f
     rw [if_pos (by omega), if_pos (by omega), Int.toNat_natCast]
    have e2 : IntKind.u64.wrap ((x : Int) - 1) = ((x - 1 : Nat) : Int) := by rw [IntKind.wrap_u64]; omega
    have e3 : bits .and .u64 (x : Int) (IntKind.u64.wrap ((x : Int) - 1)) = ((x &&& (x - 1) : Nat) : Int) := by
     rw [e2, bits_and_int _ _ (by omega) (by omega), Int.toNat_natCast, Int.toNat_natCast]
    have e4 : wrap64 (wrap64 ((i : Int) * 64) + ((Lib.ctz 64 x : Nat) : Int)) = ((i * 64 + Lib.ctz 64 x : Nat) : Int) := by
     have h1 : wrap64 ((i : Int) * 64) = (i : Int) * 64 := by unfold wrap64; omega
     rw [h1]
     unfold wrap64
     omega
    rw [e1, Option.bind_some, if_pos (by omega), e3, e4, hrun k, List.append_assoc]
    rfl
theorem list_loop (s : List Int) (hs : Ok64 s) (hm : s.length < 68719476736) : ∀ (d i : Nat) (out : List Int), s.length = i + d → out.length + 64 * d < 17592186044416 →
  ∃ (L : List Int) (c : Nat), c ≤ 66 * d + 1 ∧ L.length ≤ 64 * d ∧ (∀ p : Int, p ∈ L ↔ ∃ q : Nat, p = (q : Int) ∧ i ≤ q / 64 ∧ q / 64 < s.length ∧ Mem s q) ∧
   ∀ k, Pr.glush_set_list.l0 (k + c) out s (s.length : Int) (i : Int) = some (out ++ L) := by
 intro d
 induction d with
 | zero =>
  intro i out he hl
  refine ⟨[], 1, by omega, by simp, fun p => ?_, fun k => ?_⟩
  ·constructor
   ·intro h; cases h
   ·rintro ⟨q, _, h1, h2, _⟩; omega
  ·simp only [Pr.glush_set_list.l0]
   rw [if_neg (by omega), List.append_nil]
 | succ d ih =>
  intro i out he hl
  have hx := hs.wd_lt i
  obtain ⟨L1, c1, hc1, hL1, hm1, hr1⟩ := bits_loop s (s.length : Int) i (by omega) 64 0 (wd s i) out hx (fun j hj => by omega) (by omega) (by omega)
  obtain ⟨L2, c2, hc2, hL2, hm2, hr2⟩ := ih (i + 1) (out ++ L1) (by omega) (by rw [List.length_append]; omega)
  refine ⟨L1 ++ L2, c2 + c1 + 1, by omega, by rw [List.length_append]; omega, fun p => ?_, fun k => ?_⟩
  ·rw [List.mem_append, hm1 p, hm2 p]
   constructor
   ·rintro (⟨j, rfl, hb⟩ | ⟨q, rfl, h1, h2, h3⟩)
    ·have hj : j < 64 := Nat.lt_of_not_le (fun h => by rw [Nat.testBit_lt_two_pow (lt_pow64 hx h)] at hb; cases hb)
     have e1 : (i * 64 + j) / 64 = i := by omega
     have e2 : (i * 64 + j) % 64 = j := by omega
     refine ⟨i * 64 + j, rfl, by omega, by omega, ?_⟩
     unfold Mem
     rw [e1, e2]
     exact hb
    ·exact ⟨q, rfl, by omega, h2, h3⟩
   ·rintro ⟨q, rfl, h1, h2, h3⟩
    by_cases hq : q / 64 = i
    ·left
     refine ⟨q % 64, by omega, ?_⟩
     unfold Mem at h3
     rw [hq] at h3
     exact h3
    ·right
     exact ⟨q, rfl, by omega, h2, h3⟩
  ·rw [show k + (c2 + c1 + 1) = ((k + c2) + c1) + 1 by omega]
   simp only [Pr.glush_set_list.l0]
   have e1 : rd s (i : Int) = ((wd s i : Nat) : Int) := by
    rw [rd_getD]
    have := (hs.at i).1
    unfold wd
    omega
   rw [if_pos (by omega), if_pos (by omega), if_pos (by omega), e1, hr1 (k + c2), hr2 k, List.append_assoc]
theorem list_eq (k : Nat) (s : List Int) (hs : Ok64 s) (hm : s.length < 1048576) (hk : 66 * s.length + 1 ≤ k) :
  ∃ L, Pr.glush_set_list.f k s = some L ∧ L.length ≤ 64 * s.length ∧ ∀ p : Int, p ∈ L ↔ ∃ q : Nat, p = (q : Int) ∧ q / 64 < s.length ∧ Mem s q := by
 obtain ⟨L, c, hc, hL, hmem, hrun⟩ := list_loop s hs (by omega) s.length 0 [] (by omega) (by simp; omega)
 refine ⟨L, ?_, hL, fun p => ?_⟩
 ·have := hrun (k - c)
  rw [show k - c + c = k by omega] at this
  exact this
 ·rw [hmem p]
  constructor
  ·rintro ⟨q, h1, _, h2, h3⟩; exact ⟨q, h1, h2, h3⟩
  ·rintro ⟨q, h1, h2, h3⟩; exact ⟨q, h1, Nat.zero_le _, h2, h3⟩
structure SetOk (n : Int) (R : Nat) (s : List Int) : Prop where
 len : s.length = nw n
 ok : Ok64 s
 lt : ∀ p, Mem s p → p < R
def setOkB (n : Int) (R : Nat) (s : List Int) : Bool := decide (s.length = nw n) && s.all (fun x => decide (0 ≤ x) && decide (x < 18446744073709551616)) && (List.range (64 * nw n)).all (fun p => !((wd s (p / 64)).testBit (p % 64)) || decide (p < R))
end Go.Proofs.YthocjdlcopmhiaaDoor.G
namespace Go.Proofs.YthocjdlcopmhiaaDoor.G
open Go.RowKit Go.Proofs.YthocjdlcopmhiaaDoorW.PrintWords Go.Proofs.YthocjdlcopmhiaaDoorW.PrintLast Go.Proofs.YthocjdlcopmhiaaDoorW.PrintMore
attribute [local go_sem] max2_int min2_int max_two min_two max_three min_three max_four min_four
set_option linter.unusedVariables false
set_option linter.unusedSimpArgs false
structure PR where
 null : Bool
 fst : List Int
 lst : List Int
 syms : List Int
 rows : List (List Int)
abbrev Pt := Bool × List Int × List Int
abbrev PFn := Pr.S24 → List Int → List (List Int) → Option PR
def seqPt (k : Nat) (rows : List (List Int)) (x y : Pt) : Option (Pt × List (List Int)) :=
 (linkF k rows x.2.2 y.2.1).bind fun rows' => (slices_Clone_set.f x.2.1).bind fun _ => (slices_Clone_set.f y.2.2).bind fun _ =>
  (if x.1 = true then Pr.glush_set_join.f k x.2.1 y.2.1 else some x.2.1).bind fun f => (if y.1 = true then Pr.glush_set_join.f k y.2.2 x.2.2 else some y.2.2).bind fun l => some ((x.1 && y.1, f, l), rows')
def seqKids (k : Nat) (pf : PFn) : List Pr.S24 → Pt → List Int → List (List Int) → Option PR
 | [], out, syms, rows => some ⟨out.1, out.2.1, out.2.2, syms, rows⟩
 | x :: l, out, syms, rows => (pf x syms rows).bind fun r => (seqPt k r.rows out (r.null, r.fst, r.lst)).bind fun o => seqKids k pf l o.1 r.syms o.2
def altKids (k : Nat) (pf : PFn) : List Pr.S24 → Pt → List Int → List (List Int) → Option PR
 | [], out, syms, rows => some ⟨out.1, out.2.1, out.2.2, syms, rows⟩
 | x :: l, out, syms, rows => (pf x syms rows).bind fun r => (Pr.glush_set_join.f k out.2.1 r.fst).bind fun f => (Pr.glush_set_join.f k out.2.2 r.lst).bind fun g => altKids k pf l (out.1 || r.null, f, g) r.syms r.rows
def copies (pf : PFn) (x : Pr.S24) : Nat → List Pt → List Int → List (List Int) → Option (List Pt × List Int × List (List Int))
 | 0, l, syms, rows => some (l, syms, rows)
 | m + 1, l, syms, rows => (pf x syms rows).bind fun r => copies pf x m (l ++ [(r.null, r.fst, r.lst)]) r.syms r.rows
def rowPts (k : Nat) : List Pt → Pt → List (List Int) → Option (Pt × List (List Int))
 | [], out, rows => some (out, rows)
 | x :: l, out, rows => (seqPt k rows out x).bind fun o => rowPts k l o.1 o.2
def tailPts (k : Nat) : List Pt → Pt → List (List Int) → Option (Pt × List (List Int))
 | [], out, rows => some (out, rows)
 | x :: l, out, rows => (seqPt k rows x out).bind fun o => tailPts k l (true, o.1.2.1, o.1.2.2) o.2
def fresh0 (n : Int) (b : Bool) : Pt := (b, freshF n, freshF n)
def outPt (o : Pt) (syms : List Int) (rows : List (List Int)) : PR := ⟨o.1, o.2.1, o.2.2, syms, rows⟩
def repFor (k : Nat) (n : Int) (lo : Int) (t : Nat) (l : List Pt) (syms : List Int) (rows : List (List Int)) : Option PR :=
 if 0 < t then
  (linkF k rows (l.getD (t - 1) (false, [], [])).2.2 (l.getD (t - 1) (false, [], [])).2.1).bind fun rows' =>
   (rowPts k (if lo = 0 then l.set (t - 1) (true, (l.getD (t - 1) (false, [], [])).2) else l) (fresh0 n true) rows').bind fun o => some (outPt o.1 syms o.2)
 else none
def allOkB (n : Int) (l : List Pt) (rows : List (List Int)) : Bool := l.all (fun x => setOkB n rows.length x.2.1 && setOkB n rows.length x.2.2) && rows.all (fun r => setOkB n rows.length r)
def repTo (k : Nat) (n : Int) (lo : Nat) (l : List Pt) (syms : List Int) (rows : List (List Int)) : Option PR :=
 if 4096 ≤ k then if allOkB n l rows = true then
  (tailPts k (l.drop lo).reverse (fresh0 n true) rows).bind fun t => (rowPts k (l.take lo) (fresh0 n true) t.2).bind fun o => (seqPt k o.2 o.1 t.1).bind fun z => some (outPt z.1 syms z.2)
 else none else none
def repF (k : Nat) (n : Int) (pf : PFn) (e : Pr.S24) (syms : List Int) (rows : List (List Int)) : Option PR :=
 if 0 < e.f4.length then
  (Pr.glush_times.f e.f0 e.f1 e.f2 e.f3 e.f4).bind fun t =>
   if t = 0 then some (outPt (fresh0 n true) syms rows)
   else (Pr.glush_Positions.f k (Pr.rd_T24 e.f4 0).f0 (Pr.rd_T24 e.f4 0).f1 (Pr.rd_T24 e.f4 0).f2 (Pr.rd_T24 e.f4 0).f3 (Pr.rd_T24 e.f4 0).f4 1).bind fun p =>
    if p = 0 then (pf (Pr.rd_T24 e.f4 0) syms rows).bind fun r => some { r with null := r.null || (e.f2 == 0) }
    else if t ≤ 4096 then (copies pf (Pr.rd_T24 e.f4 0) t.toNat [] syms rows).bind fun c =>
     if e.f3 = -1 then repFor k n e.f2 t.toNat c.1 c.2.1 c.2.2
     else if 0 ≤ e.f2 then if e.f2 ≤ t then repTo k n e.f2.toNat c.1 c.2.1 c.2.2 else none else none
    else none
 else none
def symF (n : Int) (x : Int) (syms : List Int) (rows : List (List Int)) : Option PR :=
 if syms.length < 4096 then if rows.length < 4096 then
  (Pr.glush_set_add.f (freshF n) (syms.length : Int)).bind fun f => some ⟨false, f, f, syms ++ [x], rows ++ [freshF n]⟩
 else none else none
def partF : Nat → Int → PFn
 | 0, _ => fun _ _ _ => none
 | k + 1, n => fun e syms rows =>
  if e.f0 = 2 then symF n e.f1 syms rows
  else if e.f0 = 3 then seqKids k (partF k n) e.f4 (fresh0 n true) syms rows
  else if e.f0 = 4 then altKids k (partF k n) e.f4 (fresh0 n false) syms rows
  else if e.f0 = 5 then repF k n (partF k n) e syms rows
  else some (outPt (fresh0 n (e.f0 == 1)) syms rows)
def PartPost (w0 w : World) (g : Nat) (Z : Nat → Prop) (n : Int) (r : PR) (e : Ending) (w' : World) : Prop :=
 ∃ Z' A5 c5 A6 c6, e = .returned (.agg #[.bool r.null, .slice A5 r.fst.length c5, .slice A6 r.lst.length c6]) ∧ Kd.R KU 77 w' w.heap.size (fun k => ¬ Z' k) (.slice A5 r.fst.length c5) r.fst ∧ Kd.R KU 77 w' w.heap.size (fun k => ¬ Z' k) (.slice A6 r.lst.length c6) r.lst ∧
  Bd w0 w' g Z' n r.syms r.rows ∧ (∀ k, Z' k → Z k ∨ w.heap.size ≤ k) ∧ Below w0.heap.size w0 w' ∧ Kept w w' Z
abbrev EV (e : Pr.S24) (A : Option Addr) (c : Nat) : Value := .agg #[.int .i64 e.f0, .int .i64 e.f1, .int .i64 e.f2, .int .i64 e.f3, .slice A e.f4.length c]
def PartOk (f : FuncId) (n : Int) (pf : PFn) : Prop :=
 ∀ (w0 w : World) (g : Nat) (Z : Nat → Prop) (syms : List Int) (rows : List (List Int)) (e : Pr.S24) (A : Option Addr) (c : Nat) (r : PR), Bd w0 w g Z n syms rows → HTab w0 → Below w0.heap.size w0 w → Kd.C Pr.k24 w0 A e.f4.length e.f4 → e.f4.length ≤ c → pf e syms rows = some r →
  Calls Tryd.prog f #[.pointer (some ⟨g, 0, none⟩), EV e A c] w (PartPost w0 w g Z n r)
theorem PartOk.call {f : FuncId} {n : Int} {pf : PFn} (h : PartOk f n pf) (w0 w : World) (g : Nat) (Z : Nat → Prop) (syms : List Int) (rows : List (List Int)) (e : Pr.S24) (A : Option Addr) (c : Nat) (r : PR) (hb : Bd w0 w g Z n syms rows) (ht : HTab w0) (hB : Below w0.heap.size w0 w) (hC : Kd.C Pr.k24 w0 A e.f4.length e.f4) (hc : e.f4.length ≤ c) (hp : pf e syms rows = some r) :
  Calls Tryd.prog f #[.pointer (some ⟨g, 0, none⟩), EV e A c] w (PartPost w0 w g Z n r) := h w0 w g Z syms rows e A c r hb ht hB hC hc hp
theorem seq_pt (k : Nat) (w0 w : World) (g : Nat) (Z : Nat → Prop) (n : Int) (syms : List Int) (rows : List (List Int)) (x y : Pt) (o : Pt × List (List Int)) (A1 A2 A3 A4 : Option Addr) (c1 c2 c3 c4 : Nat)
  (hb : Bd w0 w g Z n syms rows) (htab : HTab w0) (hB : Below w0.heap.size w0 w)
  (hxf : Kd.V KU 77 w 0 (fun k => ¬ Z k) (.slice A1 x.2.1.length c1) x.2.1) (hxl : Kd.V KU 77 w 0 (fun k => ¬ Z k) (.slice A2 x.2.2.length c2) x.2.2)
  (hyf : Kd.V KU 77 w 0 (fun k => ¬ Z k) (.slice A3 y.2.1.length c3) y.2.1) (hyl : Kd.V KU 77 w 0 (fun k => ¬ Z k) (.slice A4 y.2.2.length c4) y.2.2) (h : seqPt k rows x y = some o) :
  Calls Tryd.prog 31 #[.pointer (some ⟨g, 0, none⟩), .agg #[.bool x.1, .slice A1 x.2.1.length c1, .slice A2 x.2.2.length c2], .agg #[.bool y.1, .slice A3 y.2.1.length c3, .slice A4 y.2.2.length c4]] w fun e w' =>
   ∃ A5 c5 A6 c6, e = .returned (.agg #[.bool o.1.1, .slice A5 o.1.2.1.length c5, .slice A6 o.1.2.2.length c6]) ∧ Kd.R KU 77 w' w.heap.size (fun k => w.heap.size ≤ k) (.slice A5 o.1.2.1.length c5) o.1.2.1 ∧ Kd.R KU 77 w' w.heap.size (fun k => w.heap.size ≤ k) (.slice A6 o.1.2.2.length c6) o.1.2.2 ∧
   Bd w0 w' g Z n syms o.2 ∧ Below w0.heap.size w0 w' ∧ Kept w w' Z := by
 unfold seqPt at h
 obtain ⟨rows', h1, h⟩ := Option.bind_eq_some_iff.1 h
 obtain ⟨q1, h2, h⟩ := Option.bind_eq_some_iff.1 h
 obtain ⟨q2, h3, h⟩ := Option.bind_eq_some_iff.1 h
 obtain ⟨f, h4, h⟩ := Option.bind_eq_some_iff.1 h
 obtain ⟨l, h5, h⟩ := Option.bind_eq_some_iff.1 h
 obtain rfl := Option.some.inj h
 obtain rfl := clone_eq h2
 obtain rfl := clone_eq h3
 exact seq_calls k w0 w g Z n syms rows rows' x.1 y.1 A1 A2 A3 A4 c1 c2 c3 c4 x.2.1 x.2.2 y.2.1 y.2.2 f l hb htab hB hxf hxl hyf hyl h1 h2 h3 h4 h5
end Go.Proofs.YthocjdlcopmhiaaDoor.G
namespace Go.Proofs.YthocjdlcopmhiaaDoor.G
open Go.RowKit Go.Proofs.YthocjdlcopmhiaaDoorW.PrintWords Go.Proofs.YthocjdlcopmhiaaDoorW.PrintLast Go.Proofs.YthocjdlcopmhiaaDoorW.PrintMore
attribute [local go_sem] max2_int min2_int max_two min_two max_three min_three max_four min_four
set_option linter.unusedVariables false
set_option linter.unusedSimpArgs false
theorem grown_undrew {w w1 : World} {row : Option Nat} (h : w.drew.grownBy w1 row) : w.grownBy w1 row := ⟨h.os, h.tape, h.output, h.size, fun i hi hn => h.block i hi hn⟩
section
variable {w0 w : World} {g : Nat} {Z : Nat → Prop} {n : Int} {syms : List Int} {rows : List (List Int)}
theorem Bd.push_sym (h : Bd w0 w g Z n syms rows) (x : Int) :
  ∃ v1 v2, w.heap[g]? = some (.cells #[.int .i64 n, v1, v2] 50 (0, 0)) ∧ (∃ A c, v1 = .slice A syms.length c) ∧
   Kd.R (Kd.int .i64) 3 w w0.heap.size (fun k => Z k ∨ w.heap.size ≤ k) v1 syms ∧
   ∀ v1' w1, Kd.R (Kd.int .i64) 3 w1 w0.heap.size (fun k => Z k ∨ w.heap.size ≤ k) v1' (syms ++ [x]) → Below w0.heap.size w0 w1 → w.grownBy w1 v1.ownBlock →
    w1.cell? ⟨g, 1, none⟩ = some v1 ∧ w1.frozen? ⟨g, 1, none⟩ = false ∧ Bd w0 (w1.setCell ⟨g, 1, none⟩ v1') g (fun k => (Z k ∨ w.heap.size ≤ k) ∧ k < w1.heap.size) n (syms ++ [x]) rows ∧ Below w0.heap.size w0 (w1.setCell ⟨g, 1, none⟩ v1') ∧ Kept w (w1.setCell ⟨g, 1, none⟩ v1') Z := by
 obtain ⟨⟨v1, v2, hb, hR, hS⟩, h4, h5⟩ := h
 refine ⟨v1, v2, hb, Kd.R_slice hR, Kd.R_mono hR (fun k hk => .inl hk), fun v1' w1 hR1 hB1 hg1 => ?_⟩
 have hk1 : Kept w w1 Z := Kept.of_grown (S := Z) hg1 (Kept.refl w Z) (fun k hk => .inl (hR.1 k hk))
 have hsz := hk1.1
 have hne : ∀ k, some k = v1.ownBlock → k ≠ g := fun k hk he => Kd.R_ne hR hb (by decide) (by rw [← he]; exact hk)
 have hb1 : w1.heap[g]? = some (.cells #[.int .i64 n, v1, v2] 50 (0, 0)) := blk_grown hb hg1 (fun he => hne g he rfl)
 have hgz := h5 g h4
 refine ⟨(blk_cell hb1 1).trans rfl, blk_frozen hb1 1, ⟨⟨v1', v2, blk_put hb1 1 _ rfl, ?_, ?_⟩, ⟨.inl h4, by omega⟩, fun k hk => ⟨hk.1.elim (fun hz => (h5 k hz).1) (fun hz => by have := hgz.1; omega), by simpa [World.setCell] using hk.2⟩⟩, hB1.setCell hgz.1 _, hk1.setCell (.inl h4) _⟩
 ·have h6 := Kd.R_far (p := ⟨g, 1, none⟩) (Kd.R_types hR1 hb1 (by decide)) (fun _ hk => hk.2) v1'
  exact Kd.R_mono (Kd.R_bound h6) (fun k hk => ⟨hk.1.1, by have := hk.2.2.1; simpa [World.setCell] using this⟩)
 ·have h6 := Kd.S_over' (v := v1) (e' := 3) hS (Kd.R_typed hR) (by decide) hg1
  have h7 := Kd.S_far (p := ⟨g, 1, none⟩) (Kd.S_types h6 hb1 (by decide)) (fun _ hk => hk.2) v1'
  exact Kd.S_mono (Kd.S_bound h7) (fun k hk => ⟨.inl hk.1.1, by have := hk.2.2.1; simpa [World.setCell] using this⟩)
theorem Bd.push_row (h : Bd w0 w g Z n syms rows) (r : List Int) :
  ∃ v1 v2, w.heap[g]? = some (.cells #[.int .i64 n, v1, v2] 50 (0, 0)) ∧ (∃ A c, v2 = .slice A rows.length c) ∧ (∀ k, some k = v2.ownBlock → k < w.heap.size) ∧
   ∀ (W : World) (u : Value), Below w.heap.size w W → Kd.R KU 77 W w.heap.size (fun _ => True) u r →
    Kd.S (Kd.slice 77 KU) 52 W w0.heap.size (fun k => (Z k ∨ w.heap.size ≤ k) ∧ ¬ (w.heap.size ≤ k ∧ some k = u.ownBlock)) v2 rows ∧
    Kd.R KU 77 W w0.heap.size (fun k => w.heap.size ≤ k ∧ some k = u.ownBlock) u r ∧
    ∀ v2' w1, Kd.S (Kd.slice 77 KU) 52 w1 w0.heap.size (fun k => Z k ∨ w.heap.size ≤ k) v2' (rows ++ [r]) → Below w0.heap.size w0 w1 → W.grownBy w1 v2.ownBlock →
     w1.cell? ⟨g, 2, none⟩ = some v2 ∧ w1.frozen? ⟨g, 2, none⟩ = false ∧ Bd w0 (w1.setCell ⟨g, 2, none⟩ v2') g (fun k => (Z k ∨ w.heap.size ≤ k) ∧ k < w1.heap.size) n syms (rows ++ [r]) ∧ Below w0.heap.size w0 (w1.setCell ⟨g, 2, none⟩ v2') ∧ Kept w (w1.setCell ⟨g, 2, none⟩ v2') Z := by
 obtain ⟨⟨v1, v2, hb, hR, hS⟩, h4, h5⟩ := h
 refine ⟨v1, v2, hb, Kd.S_slice hS, fun k hk => Kd.S_lt hS k hk.symm, fun W u hbW hu => ⟨?_, ?_, fun v2' w1 hS1 hB1 hg1 => ?_⟩⟩
 ·exact Kd.S_mono (Kd.S_below hS hbW) (fun k hk => ⟨.inl hk, fun hn => by have := (h5 k hk).2; omega⟩)
 ·exact Kd.R_lower (Kd.R_mono (Kd.R_bound (Kd.R_tight rfl hu)) (fun k hk => ⟨hk.2.1, hk.1⟩)) (by have := h5 g h4; omega)
 have hk1 : Kept w w1 Z := Kept.of_grown (S := Z) hg1 (Kept.of_below hbW Z) (fun k hk => .inl ((Kd.S_R hS).1 k hk))
 have hsz := hk1.1
 have hne : ∀ k, some k = v2.ownBlock → k ≠ g := fun k hk he => Kd.S_ne hS hb (by decide) (by rw [← he]; exact hk)
 have hb1 : w1.heap[g]? = some (.cells #[.int .i64 n, v1, v2] 50 (0, 0)) := blk_grown (blk_below hb hbW) hg1 (fun he => hne g he rfl)
 have hgz := h5 g h4
 refine ⟨(blk_cell hb1 2).trans rfl, blk_frozen hb1 2, ⟨⟨v1, v2', blk_put hb1 2 _ rfl, ?_, ?_⟩, ⟨.inl h4, by omega⟩, fun k hk => ⟨hk.1.elim (fun hz => (h5 k hz).1) (fun hz => by have := hgz.1; omega), by simpa [World.setCell] using hk.2⟩⟩, hB1.setCell hgz.1 _, hk1.setCell (.inl h4) _⟩
 ·have h6 := Kd.R_over' (v := v2) (e' := 52) (Kd.R_below hR hbW) (Kd.S_typed (Kd.S_below hS hbW)) (by decide) hg1
  have h7 := Kd.R_far (p := ⟨g, 2, none⟩) (Kd.R_types h6 hb1 (by decide)) (fun _ hk => hk.2) v2'
  exact Kd.R_mono (Kd.R_bound h7) (fun k hk => ⟨.inl hk.1.1, by have := hk.2.2.1; simpa [World.setCell] using this⟩)
 ·have h7 := Kd.S_far (p := ⟨g, 2, none⟩) (Kd.S_types hS1 hb1 (by decide)) (fun _ hk => hk.2) v2'
  exact Kd.S_mono (Kd.S_bound h7) (fun k hk => ⟨hk.1.1, by have := hk.2.2.1; simpa [World.setCell] using this⟩)
end
end Go.Proofs.YthocjdlcopmhiaaDoor.G
