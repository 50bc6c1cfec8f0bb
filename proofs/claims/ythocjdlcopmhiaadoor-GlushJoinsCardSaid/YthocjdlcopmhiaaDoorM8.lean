import Derived.Test.YthocjdlcopmhiaaDoorProg
import Derived.Below
import Derived.Deep.Draws
import Derived.Deep.AppendLies
import Derived.Maps.AppendAt
import Derived.OwnWalk
import Derived.Laws.BytesArg
import Derived.Laws.MakeOwn
import Derived.Laws.OwnMore
import Derived.Deep.OwnRows
import Derived.Tactics
import Derived.Lib.ConvBytes
import Derived.Laws.Slices
import Derived.WalkKit
import Derived.KernelRfl
import Derived.RowKit3
import Derived.Deep.LoopGhost
import Derived.Deep.QuietTactic
import Derived.BigQuiet
import Derived.WideLaws
import Derived.Deep.DeepCutAuto
import Derived.Deep.CutBlock
import Derived.Deep.RegionHeld3
import Derived.Laws.Rows
import Derived.Lib.AppendStr
import Derived.ArgAppend
import Derived.Laws.IdiomCopy
import Derived.OrdersHeld
import Derived.Laws.BitsLemmas
import Derived.RowKit
import Derived.Test.YthocjdlcopmhiaaDoorWWords
import Derived.Test.YthocjdlcopmhiaaDoorWLast
import Derived.Test.YthocjdlcopmhiaaDoorWTab
import Derived.Test.YthocjdlcopmhiaaDoorWQPut
import Derived.Test.YthocjdlcopmhiaaDoorWApart
import Derived.Test.YthocjdlcopmhiaaDoorWArr
import Derived.Test.YthocjdlcopmhiaaDoorWZeros
import Derived.Test.YthocjdlcopmhiaaDoorWFoot
import Derived.Test.YthocjdlcopmhiaaDoorWKept
import Derived.Test.YthocjdlcopmhiaaDoorWShare
import Derived.Test.YthocjdlcopmhiaaDoorWN
import Derived.Test.YthocjdlcopmhiaaDoorWRepsOne
import Derived.Test.YthocjdlcopmhiaaDoorWGuard
import Derived.Test.YthocjdlcopmhiaaDoorWNEv
import Derived.Test.YthocjdlcopmhiaaDoorWMore
import Derived.Test.YthocjdlcopmhiaaDoorWEqStruct
import Derived.Test.YthocjdlcopmhiaaDoorWFour
import Derived.Test.YthocjdlcopmhiaaDoorWFootNe
import Derived.Test.YthocjdlcopmhiaaDoorWAt
import Derived.Test.YthocjdlcopmhiaaDoorWInv
import Derived.Test.YthocjdlcopmhiaaDoorWInvWords
import Derived.Test.YthocjdlcopmhiaaDoorM2
import Derived.Test.YthocjdlcopmhiaaDoorM7
import Derived.Test.YthocjdlcopmhiaaDoorPrx1
import Derived.Test.YthocjdlcopmhiaaDoorPrx3
import Derived.Test.YthocjdlcopmhiaaDoorM6
import Derived.Test.YthocjdlcopmhiaaDoorM1
import Derived.Test.YthocjdlcopmhiaaDoorPrx2
namespace Go.Proofs.YthocjdlcopmhiaaDoor.G
open Go.RowKit Go.Proofs.YthocjdlcopmhiaaDoorW.PrintWords Go.Proofs.YthocjdlcopmhiaaDoorW.PrintLast Go.Proofs.YthocjdlcopmhiaaDoorW.PrintMore
attribute [local go_sem] max2_int min2_int max_two min_two max_three min_three max_four min_four
set_option linter.unusedVariables false
set_option linter.unusedSimpArgs false
open GP (Cat Eps Pow)
def RF2.T : Bool × List (List Nat × List Nat) := (true, [([], []), ([0], [0]), ([1], [1]), ([2], [2]), ([], []), ([3, 4], [3, 4]), ([5], [5]), ([6], [6]), ([6], [6]), ([7, 0, 1, 2, 3, 4, 5, 6, 7], [7]), ([8, 9, 0, 1, 2, 3, 4, 5, 6, 7, 8, 9], [8])])
def RF2.B : List Nat := [0, 1, 3, 7, 0, 31, 63, 127, 127, 255, 1023]
theorem RF2.tab : rtab .any (opsOf Tryd.f22 2) = RF2.T := by kernel_rfl
theorem RF2.bits : waitsOk RF2.T.2 RF2.B = true := by kernel_rfl
def RF10.T : Bool × List (List Nat × List Nat) := (true, [([], []), ([], []), ([1], [1]), ([2], [2]), ([3], [3]), ([4], [4]), ([0, 5], [0, 5]), ([6], [6]), ([7], [7]), ([8, 7], [7, 8]), ([9, 7], [7, 9]), ([10, 7], [7, 10]), ([7], [7]), ([11, 12, 7], [7, 11, 12]), ([13, 7], [7, 13]), ([7], [7]), ([15, 7], [7, 15]), ([16, 7], [7, 16]), ([14, 17, 7], [7, 14, 17]), ([7, 18], [7, 18])])
def RF10.B : List Nat := [0, 0, 2, 6, 14, 30, 63, 127, 255, 511, 1023, 2047, 255, 8191, 16383, 255, 33023, 98559, 262143, 524287]
theorem RF10.tab : rtab .any (opsOf Tryd.f22 10) = RF10.T := by kernel_rfl
theorem RF10.bits : waitsOk RF10.T.2 RF10.B = true := by kernel_rfl
def RF27.T : Bool × List (List Nat × List Nat) := (true, [([], []), ([0], [0]), ([1], [1]), ([2], [2]), ([], []), ([], []), ([3, 4, 5, 0, 1, 2, 3, 4, 5], [3, 4, 5])])
def RF27.B : List Nat := [0, 1, 3, 7, 0, 0, 63]
theorem RF27.tab : rtab .any (opsOf Tryd.f22 27) = RF27.T := by kernel_rfl
theorem RF27.bits : waitsOk RF27.T.2 RF27.B = true := by kernel_rfl
set_option maxHeartbeats 8000000 in
set_option maxRecDepth 100000 in
theorem from_calls (Lg : Int → List Int → Prop) (W0 : World) (gm bm : Nat) (ws : List Int) (Aw : Option Addr) (cw : Nat) (x : Pr.S63) (henv : Env W0 gm bm ws Aw cw) (hlab : Lab Lg x) (hwf : Wf x.f0) (hkid : x.f0.f0 = 3 ∨ x.f0.f0 = 4 → ∀ i : Nat, i < x.f2.length → FromOk Lg W0 gm bm ws (Pr.rd_T63 x.f2 i)) (hag : x.f0.f0 = 5 → AgainOk Lg W0 gm bm ws x) : FromOk Lg W0 gm bm ws x := by
 intro Z w i A4 c4 A6 c6 hst hm hZb hZ hi hxk
 have hu63 := Tryd.underlying63; have hu24 := Tryd.underlying24; have hu60 := Tryd.underlying60
 obtain ⟨_, hid0, hid1, hlg, hmap, hkl⟩ := hlab
 have hF := (kidsF hxk).2
 have HE := Lib.hid henv; have HST := Lib.hid hst; have HM := Lib.hid hm; have HZB := Lib.hid hZb; have HZ := Lib.hid hZ; have HXK := Lib.hid hxk; have HF := Lib.hid hF; have HI := Lib.hid hi; have HWF := Lib.hid hwf; have HKID := Lib.hid hkid; have HAG := Lib.hid hag; have HLG := Lib.hid hlg; have HMAP := Lib.hid hmap; have HKL := Lib.hid hkl
 have M0 := Lib.hid (blk_kept henv.m hst.k henv.ne)
 have HW := Lib.hid (Kd.V_kept henv.w hst.k (fun k h1 h2 => h1 h2))
 have hbm := hm.lt
 have HBM := Lib.hid hbm
 obtain ⟨kl, hkl2⟩ := keyOf2 x.f1 (i : Int) (wf64 hid0 hid1) (wf64 (by omega) (by have := henv.len; omega))
 have HKEY := Lib.hid hkl2
 have HID0 := Lib.hid hid0; have HID1 := Lib.hid hid1
 have NLEN := HE.out.len
 clear henv hst hm hZb hZ hi hxk hF hwf hkid hag hlg hmap hkl hbm hkl2 hid0 hid1
 have HN := Lib.hid NLEN
 clear NLEN
 go_enter Tryd.func22, Tryd.ntmps22
 go_upto_region 2 with (fail)
 have hby := below_alloc (below_alloc (Below.refl w.heap.size w) (.cells #[.int .i64 x.f0.f0, .int .i64 x.f0.f1, .int .i64 x.f0.f2, .int .i64 x.f0.f3, .slice A4 x.f0.f4.length c4, .int .i64 x.f1, .slice A6 x.f2.length c6] 63)) (.cells #[.int .i64 x.f1, .int .i64 (i : Int)] 79)
 have KXA : ((w.alloc (.cells #[.int .i64 x.f0.f0, .int .i64 x.f0.f1, .int .i64 x.f0.f2, .int .i64 x.f0.f3, .slice A4 x.f0.f4.length c4, .int .i64 x.f1, .slice A6 x.f2.length c6] 63)).alloc (.cells #[.int .i64 x.f1, .int .i64 (i : Int)] 79)).heap[w.heap.size]? = some (.cells #[.int .i64 x.f0.f0, .int .i64 x.f0.f1, .int .i64 x.f0.f2, .int .i64 x.f0.f3, .slice A4 x.f0.f4.length c4, .int .i64 x.f1, .slice A6 x.f2.length c6] 63 (0, 0)) := blk_alloc (blk_new w _) _
 have KYA : ((w.alloc (.cells #[.int .i64 x.f0.f0, .int .i64 x.f0.f1, .int .i64 x.f0.f2, .int .i64 x.f0.f3, .slice A4 x.f0.f4.length c4, .int .i64 x.f1, .slice A6 x.f2.length c6] 63)).alloc (.cells #[.int .i64 x.f1, .int .i64 (i : Int)] 79)).heap[w.heap.size + 1]? = some (.cells #[.int .i64 x.f1, .int .i64 (i : Int)] 79 (0, 0)) := by
  have := blk_new (w.alloc (.cells #[.int .i64 x.f0.f0, .int .i64 x.f0.f1, .int .i64 x.f0.f2, .int .i64 x.f0.f3, .slice A4 x.f0.f4.length c4, .int .i64 x.f1, .slice A6 x.f2.length c6] 63)) (.cells #[.int .i64 x.f1, .int .i64 (i : Int)] 79); simpa using this
 generalize (w.alloc (.cells #[.int .i64 x.f0.f0, .int .i64 x.f0.f1, .int .i64 x.f0.f2, .int .i64 x.f0.f3, .slice A4 x.f0.f4.length c4, .int .i64 x.f1, .slice A6 x.f2.length c6] 63)).alloc (.cells #[.int .i64 x.f1, .int .i64 (i : Int)] 79) = wA at hby KXA KYA ⊢
 have KX := Lib.hid (blk_drew KXA); have KY := Lib.hid (blk_drew KYA); have MA := Lib.hid (blk_drew (blk_below M0.out hby)); have HB := Lib.hid (below_drew hby); have HMA := Lib.hid (HM.out.below (below_drew hby)); have HSA := Lib.hid ((Step.refl bm w).below (below_drew hby) (Nat.le_of_lt HBM.out))
 clear hby KXA KYA M0
 obtain ⟨es, clock, hmb, hgood⟩ := HMA.out
 have hkeys : KeysOk 79 es := fun e he => by
  obtain ⟨id, j, A, c, e1, e2, e3, e4, e5, e6⟩ := hgood e he
  rw [e1]
  exact keyOf2 id j (wf64 e2 e3) (wf64 (by omega) (by have := HE.out.len; omega))
 have hlook := look_run K2 Tryd.underlying58 (show (zeroValue 66).run Tryd.prog wA.drew = .ok (.slice none 0 0) wA.drew by kernel_rfl) hmb hkeys HKEY.out
 have c2 : wA.drew.cell? ⟨gm, 2, none⟩ = some (.map (some bm)) := (blk_cell MA.out 2).trans rfl
 have k0 : wA.drew.cell? ⟨w.heap.size + 1, 0, none⟩ = some (.int .i64 x.f1) := (blk_cell KY.out 0).trans rfl
 have k1 : wA.drew.cell? ⟨w.heap.size + 1, 1, none⟩ = some (.int .i64 (i : Int)) := (blk_cell KY.out 1).trans rfl
 have HGOOD := Lib.hid hgood; have HKEYS := Lib.hid hkeys; have HMB := Lib.hid hmb
 clear hgood hkeys hmb
 rcases hlook with ⟨hl, _⟩ | ⟨e0, he0, hek, hl⟩
 case inr =>
  obtain ⟨id, j, A, c, e1, e2, e3, e4, e5, e6⟩ := HGOOD.out e0 he0
  have hkk : key2 id j = key2 x.f1 (i : Int) := by rw [← e1, hek]
  obtain ⟨rfl, hji⟩ : x.f1 = id ∧ (i : Int) = (j : Int) := by simpa [key2] using hkk.symm
  obtain rfl : i = j := by omega
  rw [e5] at hl
  refine start_ (n := 11) (S := fun w' => w'.cell? ⟨gm, 2, none⟩ = some (.map (some bm)) ∧ w'.cell? ⟨w.heap.size + 1, 0, none⟩ = some (.int .i64 x.f1) ∧ w'.cell? ⟨w.heap.size + 1, 1, none⟩ = some (.int .i64 (i : Int)) ∧ (Instr.lookup 58 (.map (some bm)) (key2 x.f1 (i : Int)) true).run Tryd.prog w' = .ok (.tuple #[.slice A (rowL ws (Lg x.f1) i).length c, .bool true]) w') (ds := []) (S.um 11 0) (by kernel_rfl) rfl rfl ⟨c2, k0, k1, hl⟩ (fun hHeld => ?_); refine with_tabW RF2.tab RF2.bits (fun HT_ HW_ => ?_)
  refine S.p 11 0 20 1 HT_.out rfl rfl ?_
  refine S.p 11 1 21 3 HT_.out rfl rfl ?_
  refine S.p 11 2 22 7 HT_.out rfl rfl ?_
  refine S.t 11 3 23 15 HT_.out HW_.out rfl rfl hHeld ?_
  refine S.t 11 4 24 31 HT_.out HW_.out rfl rfl hHeld ?_
  refine S.t 11 5 25 63 HT_.out HW_.out rfl rfl hHeld ?_
  refine S.p 11 6 19 127 HT_.out rfl rfl ?_
  refine S.p 11 7 26 255 HT_.out rfl rfl ?_
  refine S.p 11 8 27 511 HT_.out rfl rfl ?_
  refine S.p 11 9 8 1023 HT_.out rfl rfl ?_
  refine S.p 11 10 9 2047 HT_.out rfl rfl ?_
  refine done_ (done_of HT_.out (by kernel_rfl)) ?_; clear HT_ HW_ hHeld
  have HV := Lib.hid e6
  clear c2 k0 k1 hl e1 e2 e3 e4 e5 e6 hek he0 hkk hji
  go_wp2_with (fail)
  go_ret
  refine ⟨A, c, rfl, HV.out, HMA.out, HSA.out⟩
 case inl =>
  refine start_ (n := 11) (S := fun w' => w'.cell? ⟨gm, 2, none⟩ = some (.map (some bm)) ∧ w'.cell? ⟨w.heap.size + 1, 0, none⟩ = some (.int .i64 x.f1) ∧ w'.cell? ⟨w.heap.size + 1, 1, none⟩ = some (.int .i64 (i : Int)) ∧ (Instr.lookup 58 (.map (some bm)) (key2 x.f1 (i : Int)) true).run Tryd.prog w' = .ok (.tuple #[.slice none 0 0, .bool false]) w') (ds := []) (S.um 11 0) (by kernel_rfl) rfl rfl ⟨c2, k0, k1, hl⟩ (fun hHeld => ?_); refine with_tabW RF2.tab RF2.bits (fun HT_ HW_ => ?_)
  refine S.p 11 0 20 1 HT_.out rfl rfl ?_
  refine S.p 11 1 21 3 HT_.out rfl rfl ?_
  refine S.p 11 2 22 7 HT_.out rfl rfl ?_
  refine S.t 11 3 23 15 HT_.out HW_.out rfl rfl hHeld ?_
  refine S.t 11 4 24 31 HT_.out HW_.out rfl rfl hHeld ?_
  refine S.t 11 5 25 63 HT_.out HW_.out rfl rfl hHeld ?_
  refine S.p 11 6 19 127 HT_.out rfl rfl ?_
  refine S.p 11 7 26 255 HT_.out rfl rfl ?_
  refine S.p 11 8 27 511 HT_.out rfl rfl ?_
  refine S.p 11 9 8 1023 HT_.out rfl rfl ?_
  refine S.p 11 10 9 2047 HT_.out rfl rfl ?_
  refine done_ (done_of HT_.out (by kernel_rfl)) ?_; clear HT_ HW_ hHeld
  clear c2 k0 k1 hl HGOOD HKEYS HMB HKEY HM HB
  generalize wA.drew = wD at KX KY MA HMA HSA ⊢
  have a0 : wD.cell? ⟨gm, 0, none⟩ = some (.slice Aw ws.length cw) := (blk_cell MA.out 0).trans rfl
  have hnl : ws.length < 1048576 := HN.out
  go_upto_region 6 with (first | ((with_reducible refine gate_dst (N := 36) rfl ?_); refine Kd.R_make (w0 := wD) Kd.bool wD.heap.size 4 rfl (N := 36) rfl 66 _ _ rfl ((ws.length : Int) + 1) ?hx ?hy Tryd.underlying66 (.bool false) 1 (by kernel_rfl) rfl (by decide) (by decide) false (ok := fun _ => True) (okp := fun _ => True) rfl (fun _ hk => hk) trivial (by omega) (by omega) (Below.refl _ _) (Nat.le_refl _) ?_; (case hx => rfl); (case hy => rfl); intro v1 w1 ho1 hb1 hg1 hn1; have HO1 := Lib.hid ho1; have HB1 := Lib.hid hb1; clear ho1 hb1 hg1 hn1))
  clear hnl a0
  have hr1 := HO1.out
  rw [show ((ws.length : Int) + 1).toNat = ws.length + 1 by omega, rowP_none] at hr1
  obtain ⟨g, c, rfl, hgb, hglt, _⟩ := Kd.R_form hr1 (by rw [rowP_len]; omega)
  rw [rowP_len] at hr1 ⊢
  have HR := Lib.hid (R_at hr1)
  have hszD : w.heap.size + 1 < wD.heap.size := blk_lt KY.out
  have HG := Lib.hid (show w.heap.size + 1 < g by omega)
  have HGM := Lib.hid (show gm < g from Nat.lt_of_lt_of_le (blk_lt MA.out) hgb)
  have HGB := Lib.hid (show ¬ g = bm by have := HBM.out; omega)
  have HGZ := Lib.hid (show ¬ Z g from fun hz => by have := HZ.out g hz; omega)
  have HMz := Lib.hid ((HMA.out.zone (Z' := fun k => Z k ∨ k = g) (fun k hk => hk.elim .inl (fun h => .inr (by omega)))).below HB1.out)
  have HS1 := Lib.hid (HSA.out.below HB1.out (Nat.le_trans (Nat.le_of_lt HBM.out) HSA.out.size)); have KX1 := Lib.hid (blk_below KX.out HB1.out); have KY1 := Lib.hid (blk_below KY.out HB1.out); have M1 := Lib.hid (blk_below MA.out HB1.out)
  clear hr1 hgb hglt hszD HMA HSA KX KY MA HO1 HB1
  have q0 : w1.cell? ⟨w.heap.size, 0, none⟩ = some (.int .i64 x.f0.f0) := (blk_cell KX1.out 0).trans rfl
  by_cases hk1 : x.f0.f0 = 1
  case pos =>
   rw [hk1] at q0
   have hiw := HI.out
   have hR_ : Kd.R Kd.bool 4 w1 g (fun k => k = g) (.slice (some ⟨g, 0, none⟩) (rowP ws.length (fun _ => False)).length c) (rowP ws.length (fun _ => False)) := by rw [rowP_len]; exact HR.out
   obtain ⟨hcl, hfz⟩ := Kd.R_cell false hR_ ((i : Nat) : Int) (by omega) (by rw [rowP_len]; omega)
   have hpt := Kd.R_put hR_ ((i : Nat) : Int) true
   rw [Int.toNat_natCast] at hcl hfz hpt
   rw [rowP_set (by omega), rowP_len] at hpt
   rw [row1 HLG.out hk1 HI.out] at hpt
   have hp0 : (0 ≤ (i : Int)) = True := eq_true (by omega)
   have hp1 : ((i : Int) < (ws.length : Int) + 1) = True := eq_true (by omega)
   go_upto_region 27 with (fail)
   clear hcl hfz hp0 hp1 hiw q0
   have hk1_ : Kept w1 (w1.setCell ⟨g, i, none⟩ (.bool true)) (fun k => k = g) := Kept.setCell (S := fun k => k = g) (Kept.refl w1 _) (p := ⟨g, i, none⟩) (.inl rfl) _
   have HM2 := Lib.hid ((HMz.out.kept hk1_ (fun k h => .inr h) (fun h => h.elim HZB.out (fun h => HGB.out h.symm))).zone (Z' := Z) (fun k h => .inl (.inl h)))
   have HS2 := Lib.hid (HS1.out.set (p := ⟨g, i, none⟩) (by show w.heap.size ≤ g; have := HG.out; omega) (by show bm ≤ g; have := HG.out; have := HBM.out; omega) (.bool true))
   have KX2 := Lib.hid (blk_kept KX1.out hk1_ (fun h => by have h' : w.heap.size = g := h; have := HG.out; omega))
   have KY2 := Lib.hid (blk_kept KY1.out hk1_ (fun h => by have h' : w.heap.size + 1 = g := h; have := HG.out; omega))
   have M2 := Lib.hid (M1.out |> fun h => blk_kept h hk1_ (fun h => by have h' : gm = g := h; have h2 := HGM.out; omega))
   have HV2 : Hid (RowV bm Z (w1.setCell ⟨g, i, none⟩ (.bool true)) (some ⟨g, 0, none⟩) c _) := Lib.hid (R_view (show Kd.R Kd.bool 4 (w1.setCell ⟨g, i, none⟩ (.bool true)) g (fun k => k = g) (.slice (some ⟨g, 0, none⟩) (ws.length + 1) c) _ from hpt.1) ⟨HGB.out, HGZ.out⟩)
   clear HMz HS1 KX1 KY1 M1 HR hk1_ hpt hR_
   generalize w1.setCell ⟨g, i, none⟩ (.bool true) = w2 at HM2 HS2 KX2 KY2 M2 HV2 ⊢
   obtain ⟨wf, hup, hmf, hsf, hvf⟩ := Memo.put (Memo.drew HM2.out) HID0.out HID1.out HI.out HN.out (Kd.V_drew HV2.out)
   have HMF := Lib.hid hmf; have HSF := Lib.hid (HS2.out.drew.trans hsf); have HVF := Lib.hid hvf
   clear hmf hsf hvf
   rw [rowL_len] at hup
   have c2 : w2.drew.cell? ⟨gm, 2, none⟩ = some (.map (some bm)) := (blk_cell (blk_drew M2.out) 2).trans rfl
   have k0 : w2.drew.cell? ⟨w.heap.size + 1, 0, none⟩ = some (.int .i64 x.f1) := (blk_cell (blk_drew KY2.out) 0).trans rfl
   have k1 : w2.drew.cell? ⟨w.heap.size + 1, 1, none⟩ = some (.int .i64 (i : Int)) := (blk_cell (blk_drew KY2.out) 1).trans rfl
   go_upto_region 27 with (fail)
   refine start_ (n := 7) (S := fun w' => w'.cell? ⟨gm, 2, none⟩ = some (.map (some bm)) ∧ w'.cell? ⟨w.heap.size + 1, 0, none⟩ = some (.int .i64 x.f1) ∧ w'.cell? ⟨w.heap.size + 1, 1, none⟩ = some (.int .i64 (i : Int))) (ds := [6]) (S.um 7 0) (by kernel_rfl) rfl rfl ⟨c2, k0, k1⟩ (fun hHeld => ?_); refine with_tabW RF27.tab RF27.bits (fun HT_ HW_ => ?_)
   refine S.p 7 0 110 1 HT_.out rfl rfl ?_
   refine S.p 7 1 111 3 HT_.out rfl rfl ?_
   refine S.p 7 2 112 7 HT_.out rfl rfl ?_
   refine S.p 7 5 115 39 HT_.out rfl rfl ?_
   refine S.t 7 3 113 47 HT_.out HW_.out rfl rfl hHeld ?_
   refine S.t 7 4 114 63 HT_.out HW_.out rfl rfl hHeld ?_
   refine last_ (i := 6) (N := none) (S.um 7 127) rfl rfl (one_of HT_.out (by kernel_rfl)) (by decide) (fun K hK => ?_)
   refine skip_ (w1 := wf) (by rfl) rfl ?_ ?_
   ·go_simp
   refine hK.out _ _ ?_; clear hK K
   refine done_ (done_of HT_.out (by kernel_rfl)) ?_; clear HT_ HW_ hHeld c2 k0 k1 hup
   go_wp2_with (fail)
   go_ret
   exact ⟨some ⟨g, 0, none⟩, c, by rw [rowL_len]; rfl, HVF.out, HMF.out, HSF.out⟩
  case neg =>
   by_cases hk2 : x.f0.f0 = 2
   case pos =>
    rw [hk2] at q0
    have b1 : ((2 : Int) == 1) = false := rfl
    have q1 : w1.cell? ⟨w.heap.size, 1, none⟩ = some (.int .i64 x.f0.f1) := (blk_cell KX1.out 1).trans rfl
    have hK2 := Lib.hid hk2
    have a0 : w1.cell? ⟨gm, 0, none⟩ = some (.slice Aw ws.length cw) := (blk_cell M1.out 0).trans rfl
    by_cases hiw : i < ws.length
    case neg =>
     have hd1 : decide ((i : Int) < (ws.length : Int)) = false := decide_eq_false (by omega)
     have hd2 : decide (i < ws.length) = false := decide_eq_false hiw
     have hNO := Lib.hid (show ¬ (i < ws.length ∧ ws.getD i 0 = x.f0.f1) from fun h => hiw h.1)
     clear hk1 hk2 hiw
     go_upto_region 10 with (fail)
     refine start_ (n := 20) (S := fun w' => w'.cell? ⟨gm, 0, none⟩ = some (.slice Aw ws.length cw) ∧ w'.cell? ⟨w.heap.size, 1, none⟩ = some (.int .i64 x.f0.f1)) (ds := []) (S.um 20 0) (by kernel_rfl) rfl rfl ⟨a0, q1⟩ (fun hHeld => ?_); refine with_tabW RF10.tab RF10.bits (fun HT_ HW_ => ?_)
     refine S.p 20 0 47 1 HT_.out rfl rfl ?_
     refine S.p 20 1 48 3 HT_.out rfl rfl ?_
     refine S.p 20 2 49 7 HT_.out rfl rfl ?_
     refine S.p 20 3 50 15 HT_.out rfl rfl ?_
     refine S.t 20 4 51 31 HT_.out HW_.out rfl rfl hHeld ?_
     refine S.p 20 5 52 63 HT_.out rfl rfl ?_
     refine S.p 20 6 53 127 HT_.out rfl rfl ?_
     refine S.p 20 7 54 255 HT_.out rfl rfl ?_
     refine S.u 20 8 55 511 HT_.out rfl rfl ?_
     refine S.u 20 9 56 1023 HT_.out rfl rfl ?_
     refine S.u 20 10 57 2047 HT_.out rfl rfl ?_
     refine S.u 20 12 59 6143 HT_.out rfl rfl ?_
     refine S.u 20 15 62 38911 HT_.out rfl rfl ?_
     refine S.u 20 16 63 104447 HT_.out rfl rfl ?_
     refine S.u 20 11 58 106495 HT_.out rfl rfl ?_
     refine S.u 20 13 60 114687 HT_.out rfl rfl ?_
     refine S.u 20 14 61 131071 HT_.out rfl rfl ?_
     refine S.u 20 17 64 262143 HT_.out rfl rfl ?_
     refine S.u 20 18 65 524287 HT_.out rfl rfl ?_
     refine S.p 20 19 66 1048575 HT_.out rfl rfl ?_
     refine done_ (done_of HT_.out (by kernel_rfl)) ?_; clear HT_ HW_ hHeld
     clear hd1 hd2 q0 q1 a0
     have HMd := Lib.hid HMz.out.drew; have HSd := Lib.hid HS1.out.drew; have KXd := Lib.hid (blk_drew KX1.out); have KYd := Lib.hid (blk_drew KY1.out); have Md := Lib.hid (blk_drew M1.out); have HRd := Lib.hid (Kd.R_drew HR.out)
     clear HMz HS1 KX1 KY1 M1 HR
     replace HMz := HMd; replace HS1 := HSd; replace KX1 := KXd; replace KY1 := KYd; replace M1 := Md; replace HR := HRd
     clear HMd HSd KXd KYd Md HRd
     generalize w1.drew = w1 at HMz HS1 KX1 KY1 M1 HR ⊢
     have HM2 := Lib.hid (HMz.out.zone (Z' := Z) (fun k h => .inl (.inl h)))
     have HV2 : Hid (RowV bm Z w1 (some ⟨g, 0, none⟩) c (rowL ws (Lg x.f1) i)) := Lib.hid (by rw [← row2_no HLG.out hK2.out hNO.out]; exact R_view HR.out ⟨HGB.out, HGZ.out⟩)
     clear HMz HR
     obtain ⟨wf, hup, hmf, hsf, hvf⟩ := Memo.put (Memo.drew HM2.out) HID0.out HID1.out HI.out HN.out (Kd.V_drew HV2.out)
     have HMF := Lib.hid hmf; have HSF := Lib.hid (HS1.out.drew.trans hsf); have HVF := Lib.hid hvf
     clear hmf hsf hvf
     rw [rowL_len] at hup
     have c2 : w1.drew.cell? ⟨gm, 2, none⟩ = some (.map (some bm)) := (blk_cell (blk_drew M1.out) 2).trans rfl
     have k0 : w1.drew.cell? ⟨w.heap.size + 1, 0, none⟩ = some (.int .i64 x.f1) := (blk_cell (blk_drew KY1.out) 0).trans rfl
     have k1 : w1.drew.cell? ⟨w.heap.size + 1, 1, none⟩ = some (.int .i64 (i : Int)) := (blk_cell (blk_drew KY1.out) 1).trans rfl
     go_upto_region 27 with (fail)
     refine start_ (n := 7) (S := fun w' => w'.cell? ⟨gm, 2, none⟩ = some (.map (some bm)) ∧ w'.cell? ⟨w.heap.size + 1, 0, none⟩ = some (.int .i64 x.f1) ∧ w'.cell? ⟨w.heap.size + 1, 1, none⟩ = some (.int .i64 (i : Int))) (ds := [6]) (S.um 7 0) (by kernel_rfl) rfl rfl ⟨c2, k0, k1⟩ (fun hHeld => ?_); refine with_tabW RF27.tab RF27.bits (fun HT_ HW_ => ?_)
     refine S.p 7 0 110 1 HT_.out rfl rfl ?_
     refine S.p 7 1 111 3 HT_.out rfl rfl ?_
     refine S.p 7 2 112 7 HT_.out rfl rfl ?_
     refine S.p 7 5 115 39 HT_.out rfl rfl ?_
     refine S.t 7 3 113 47 HT_.out HW_.out rfl rfl hHeld ?_
     refine S.t 7 4 114 63 HT_.out HW_.out rfl rfl hHeld ?_
     refine last_ (i := 6) (N := none) (S.um 7 127) rfl rfl (one_of HT_.out (by kernel_rfl)) (by decide) (fun K hK => ?_)
     refine skip_ (w1 := wf) (by rfl) rfl ?_ ?_
     ·go_simp
     refine hK.out _ _ ?_; clear hK K
     refine done_ (done_of HT_.out (by kernel_rfl)) ?_; clear HT_ HW_ hHeld c2 k0 k1 hup
     go_wp2_with (fail)
     go_ret
     exact ⟨some ⟨g, 0, none⟩, c, by rw [rowL_len]; rfl, HVF.out, HMF.out, HSF.out⟩
    case pos =>
     have hd1 : decide ((i : Int) < (ws.length : Int)) = true := decide_eq_true (by omega)
     have hd2 : decide (i < ws.length) = true := decide_eq_true hiw
     have hp0 : (0 ≤ (i : Int)) = True := eq_true (by omega)
     have hp1 : ((i : Int) < (ws.length : Int)) = True := eq_true (by omega)
     have hp2 : (i < ws.length) = True := eq_true hiw
     obtain ⟨adw, eaw, hcw⟩ := Kd.at_int (Kd.V_reads' (Kd.V_kept HW.out HS1.out.k (fun k h1 h2 => h1 h2))).2.2 (i : Int) (by omega) (by omega)
     rw [show rd ws (i : Int) = ws.getD i 0 from by unfold rd; rw [Int.toNat_natCast], Int.toNat_natCast] at hcw
     subst eaw
     by_cases heq : ws.getD i 0 = x.f0.f1
     case neg =>
      have hq : (ws.getD i 0 == x.f0.f1) = false := by simpa using heq
      have hNO := Lib.hid (show ¬ (i < ws.length ∧ ws.getD i 0 = x.f0.f1) from fun h => heq h.2)
      generalize hgv : ws.getD i 0 = gv at hq hcw
      clear hk1 hk2 hiw heq
      go_upto_region 10 with (fail)
      refine start_ (n := 20) (S := fun w' => w'.cell? ⟨gm, 0, none⟩ = some (.slice (some adw) ws.length cw) ∧ w'.cell? ⟨w.heap.size, 1, none⟩ = some (.int .i64 x.f0.f1) ∧ w'.cell? (adw.add i) = some (.int .i64 gv)) (ds := []) (S.um 20 0) (by kernel_rfl) rfl rfl ⟨a0, q1, hcw⟩ (fun hHeld => ?_); refine with_tabW RF10.tab RF10.bits (fun HT_ HW_ => ?_)
      refine S.p 20 0 47 1 HT_.out rfl rfl ?_
      refine S.p 20 1 48 3 HT_.out rfl rfl ?_
      refine S.p 20 2 49 7 HT_.out rfl rfl ?_
      refine S.p 20 3 50 15 HT_.out rfl rfl ?_
      refine S.t 20 4 51 31 HT_.out HW_.out rfl rfl hHeld ?_
      refine S.p 20 5 52 63 HT_.out rfl rfl ?_
      refine S.p 20 6 53 127 HT_.out rfl rfl ?_
      refine S.p 20 7 54 255 HT_.out rfl rfl ?_
      refine S.p 20 8 55 511 HT_.out rfl rfl ?_
      refine S.p 20 9 56 1023 HT_.out rfl rfl ?_
      refine S.p 20 10 57 2047 HT_.out rfl rfl ?_
      refine S.p 20 12 59 6143 HT_.out rfl rfl ?_
      refine S.p 20 15 62 38911 HT_.out rfl rfl ?_
      refine S.p 20 16 63 104447 HT_.out rfl rfl ?_
      refine S.t 20 11 58 106495 HT_.out HW_.out rfl rfl hHeld ?_
      refine S.p 20 13 60 114687 HT_.out rfl rfl ?_
      refine S.t 20 14 61 131071 HT_.out HW_.out rfl rfl hHeld ?_
      refine S.t 20 17 64 262143 HT_.out HW_.out rfl rfl hHeld ?_
      refine S.p 20 18 65 524287 HT_.out rfl rfl ?_
      refine S.p 20 19 66 1048575 HT_.out rfl rfl ?_
      refine done_ (done_of HT_.out (by kernel_rfl)) ?_; clear HT_ HW_ hHeld
      clear hd1 hd2 q0 q1 a0 hcw hp0 hp1 hp2 hq hgv
      have HMd := Lib.hid HMz.out.drew; have HSd := Lib.hid HS1.out.drew; have KXd := Lib.hid (blk_drew KX1.out); have KYd := Lib.hid (blk_drew KY1.out); have Md := Lib.hid (blk_drew M1.out); have HRd := Lib.hid (Kd.R_drew HR.out)
      clear HMz HS1 KX1 KY1 M1 HR
      replace HMz := HMd; replace HS1 := HSd; replace KX1 := KXd; replace KY1 := KYd; replace M1 := Md; replace HR := HRd
      clear HMd HSd KXd KYd Md HRd
      generalize w1.drew = w1 at HMz HS1 KX1 KY1 M1 HR ⊢
      have HM2 := Lib.hid (HMz.out.zone (Z' := Z) (fun k h => .inl (.inl h)))
      have HV2 : Hid (RowV bm Z w1 (some ⟨g, 0, none⟩) c (rowL ws (Lg x.f1) i)) := Lib.hid (by rw [← row2_no HLG.out hK2.out hNO.out]; exact R_view HR.out ⟨HGB.out, HGZ.out⟩)
      clear HMz HR
      obtain ⟨wf, hup, hmf, hsf, hvf⟩ := Memo.put (Memo.drew HM2.out) HID0.out HID1.out HI.out HN.out (Kd.V_drew HV2.out)
      have HMF := Lib.hid hmf; have HSF := Lib.hid (HS1.out.drew.trans hsf); have HVF := Lib.hid hvf
      clear hmf hsf hvf
      rw [rowL_len] at hup
      have c2 : w1.drew.cell? ⟨gm, 2, none⟩ = some (.map (some bm)) := (blk_cell (blk_drew M1.out) 2).trans rfl
      have k0 : w1.drew.cell? ⟨w.heap.size + 1, 0, none⟩ = some (.int .i64 x.f1) := (blk_cell (blk_drew KY1.out) 0).trans rfl
      have k1 : w1.drew.cell? ⟨w.heap.size + 1, 1, none⟩ = some (.int .i64 (i : Int)) := (blk_cell (blk_drew KY1.out) 1).trans rfl
      go_upto_region 27 with (fail)
      refine start_ (n := 7) (S := fun w' => w'.cell? ⟨gm, 2, none⟩ = some (.map (some bm)) ∧ w'.cell? ⟨w.heap.size + 1, 0, none⟩ = some (.int .i64 x.f1) ∧ w'.cell? ⟨w.heap.size + 1, 1, none⟩ = some (.int .i64 (i : Int))) (ds := [6]) (S.um 7 0) (by kernel_rfl) rfl rfl ⟨c2, k0, k1⟩ (fun hHeld => ?_); refine with_tabW RF27.tab RF27.bits (fun HT_ HW_ => ?_)
      refine S.p 7 0 110 1 HT_.out rfl rfl ?_
      refine S.p 7 1 111 3 HT_.out rfl rfl ?_
      refine S.p 7 2 112 7 HT_.out rfl rfl ?_
      refine S.p 7 5 115 39 HT_.out rfl rfl ?_
      refine S.t 7 3 113 47 HT_.out HW_.out rfl rfl hHeld ?_
      refine S.t 7 4 114 63 HT_.out HW_.out rfl rfl hHeld ?_
      refine last_ (i := 6) (N := none) (S.um 7 127) rfl rfl (one_of HT_.out (by kernel_rfl)) (by decide) (fun K hK => ?_)
      refine skip_ (w1 := wf) (by rfl) rfl ?_ ?_
      ·go_simp
      refine hK.out _ _ ?_; clear hK K
      refine done_ (done_of HT_.out (by kernel_rfl)) ?_; clear HT_ HW_ hHeld c2 k0 k1 hup
      go_wp2_with (fail)
      go_ret
      exact ⟨some ⟨g, 0, none⟩, c, by rw [rowL_len]; rfl, HVF.out, HMF.out, HSF.out⟩
     case pos =>
      have HEQ := Lib.hid heq
      have HIW := Lib.hid hiw
      have hq : (x.f0.f1 == x.f0.f1) = true := by simp
      rw [heq] at hcw
      clear hk1 hk2 hiw heq
      go_upto_region 10 with (fail)
      refine start_ (n := 20) (S := fun w' => w'.cell? ⟨gm, 0, none⟩ = some (.slice (some adw) ws.length cw) ∧ w'.cell? ⟨w.heap.size, 1, none⟩ = some (.int .i64 x.f0.f1) ∧ w'.cell? (adw.add i) = some (.int .i64 x.f0.f1)) (ds := []) (S.um 20 0) (by kernel_rfl) rfl rfl ⟨a0, q1, hcw⟩ (fun hHeld => ?_); refine with_tabW RF10.tab RF10.bits (fun HT_ HW_ => ?_)
      refine S.p 20 0 47 1 HT_.out rfl rfl ?_
      refine S.p 20 1 48 3 HT_.out rfl rfl ?_
      refine S.p 20 2 49 7 HT_.out rfl rfl ?_
      refine S.p 20 3 50 15 HT_.out rfl rfl ?_
      refine S.t 20 4 51 31 HT_.out HW_.out rfl rfl hHeld ?_
      refine S.p 20 5 52 63 HT_.out rfl rfl ?_
      refine S.p 20 6 53 127 HT_.out rfl rfl ?_
      refine S.p 20 7 54 255 HT_.out rfl rfl ?_
      refine S.p 20 8 55 511 HT_.out rfl rfl ?_
      refine S.p 20 9 56 1023 HT_.out rfl rfl ?_
      refine S.p 20 10 57 2047 HT_.out rfl rfl ?_
      refine S.p 20 12 59 6143 HT_.out rfl rfl ?_
      refine S.p 20 15 62 38911 HT_.out rfl rfl ?_
      refine S.p 20 16 63 104447 HT_.out rfl rfl ?_
      refine S.t 20 11 58 106495 HT_.out HW_.out rfl rfl hHeld ?_
      refine S.p 20 13 60 114687 HT_.out rfl rfl ?_
      refine S.t 20 14 61 131071 HT_.out HW_.out rfl rfl hHeld ?_
      refine S.t 20 17 64 262143 HT_.out HW_.out rfl rfl hHeld ?_
      refine S.p 20 18 65 524287 HT_.out rfl rfl ?_
      refine S.p 20 19 66 1048575 HT_.out rfl rfl ?_
      refine done_ (done_of HT_.out (by kernel_rfl)) ?_; clear HT_ HW_ hHeld
      clear hd1 hd2 q0 q1 a0 hcw hp0 hp1 hp2 hq
      have HMd := Lib.hid HMz.out.drew; have HSd := Lib.hid HS1.out.drew; have KXd := Lib.hid (blk_drew KX1.out); have KYd := Lib.hid (blk_drew KY1.out); have Md := Lib.hid (blk_drew M1.out); have HRd := Lib.hid (Kd.R_drew HR.out)
      clear HMz HS1 KX1 KY1 M1 HR
      replace HMz := HMd; replace HS1 := HSd; replace KX1 := KXd; replace KY1 := KYd; replace M1 := Md; replace HR := HRd
      clear HMd HSd KXd KYd Md HRd
      generalize w1.drew = w1 at HMz HS1 KX1 KY1 M1 HR ⊢
      have hiw := HIW.out
      have hR_ : Kd.R Kd.bool 4 w1 g (fun k => k = g) (.slice (some ⟨g, 0, none⟩) (rowP ws.length (fun _ => False)).length c) (rowP ws.length (fun _ => False)) := by rw [rowP_len]; exact HR.out
      obtain ⟨hcl, hfz⟩ := Kd.R_cell false hR_ ((i + 1 : Nat) : Int) (by omega) (by rw [rowP_len]; omega)
      have hpt := Kd.R_put hR_ ((i + 1 : Nat) : Int) true
      rw [Int.toNat_natCast] at hcl hfz hpt
      rw [rowP_set (by omega), rowP_len] at hpt
      rw [row2_yes HLG.out hK2.out HIW.out HEQ.out] at hpt
      have hp0 : (0 ≤ (i : Int) + 1) = True := eq_true (by omega)
      have hp1 : ((i : Int) + 1 < (ws.length : Int) + 1) = True := eq_true (by omega)
      have hww : wrap64 ((i : Int) + 1) = (i : Int) + 1 := by have := HN.out; unfold wrap64; omega
      have htn : ((i : Int) + 1).toNat = i + 1 := by omega
      go_upto_region 27 with (fail)
      clear hcl hfz hp0 hp1 hiw hww htn
      have hk1_ : Kept w1 (w1.setCell ⟨g, i + 1, none⟩ (.bool true)) (fun k => k = g) := Kept.setCell (S := fun k => k = g) (Kept.refl w1 _) (p := ⟨g, i + 1, none⟩) (.inl rfl) _
      have HM2 := Lib.hid ((HMz.out.kept hk1_ (fun k h => .inr h) (fun h => h.elim HZB.out (fun h => HGB.out h.symm))).zone (Z' := Z) (fun k h => .inl (.inl h)))
      have HS2 := Lib.hid (HS1.out.set (p := ⟨g, i + 1, none⟩) (by show w.heap.size ≤ g; have := HG.out; omega) (by show bm ≤ g; have := HG.out; have := HBM.out; omega) (.bool true))
      have KX2 := Lib.hid (blk_kept KX1.out hk1_ (fun h => by have h' : w.heap.size = g := h; have := HG.out; omega))
      have KY2 := Lib.hid (blk_kept KY1.out hk1_ (fun h => by have h' : w.heap.size + 1 = g := h; have := HG.out; omega))
      have M2 := Lib.hid (M1.out |> fun h => blk_kept h hk1_ (fun h => by have h' : gm = g := h; have h2 := HGM.out; omega))
      have HV2 : Hid (RowV bm Z (w1.setCell ⟨g, i + 1, none⟩ (.bool true)) (some ⟨g, 0, none⟩) c _) := Lib.hid (R_view (show Kd.R Kd.bool 4 (w1.setCell ⟨g, i + 1, none⟩ (.bool true)) g (fun k => k = g) (.slice (some ⟨g, 0, none⟩) (ws.length + 1) c) _ from hpt.1) ⟨HGB.out, HGZ.out⟩)
      clear HMz HS1 KX1 KY1 M1 HR hk1_ hpt hR_
      generalize w1.setCell ⟨g, i + 1, none⟩ (.bool true) = w2 at HM2 HS2 KX2 KY2 M2 HV2 ⊢
      obtain ⟨wf, hup, hmf, hsf, hvf⟩ := Memo.put (Memo.drew HM2.out) HID0.out HID1.out HI.out HN.out (Kd.V_drew HV2.out)
      have HMF := Lib.hid hmf; have HSF := Lib.hid (HS2.out.drew.trans hsf); have HVF := Lib.hid hvf
      clear hmf hsf hvf
      rw [rowL_len] at hup
      have c2 : w2.drew.cell? ⟨gm, 2, none⟩ = some (.map (some bm)) := (blk_cell (blk_drew M2.out) 2).trans rfl
      have k0 : w2.drew.cell? ⟨w.heap.size + 1, 0, none⟩ = some (.int .i64 x.f1) := (blk_cell (blk_drew KY2.out) 0).trans rfl
      have k1 : w2.drew.cell? ⟨w.heap.size + 1, 1, none⟩ = some (.int .i64 (i : Int)) := (blk_cell (blk_drew KY2.out) 1).trans rfl
      go_upto_region 27 with (fail)
      refine start_ (n := 7) (S := fun w' => w'.cell? ⟨gm, 2, none⟩ = some (.map (some bm)) ∧ w'.cell? ⟨w.heap.size + 1, 0, none⟩ = some (.int .i64 x.f1) ∧ w'.cell? ⟨w.heap.size + 1, 1, none⟩ = some (.int .i64 (i : Int))) (ds := [6]) (S.um 7 0) (by kernel_rfl) rfl rfl ⟨c2, k0, k1⟩ (fun hHeld => ?_); refine with_tabW RF27.tab RF27.bits (fun HT_ HW_ => ?_)
      refine S.p 7 0 110 1 HT_.out rfl rfl ?_
      refine S.p 7 1 111 3 HT_.out rfl rfl ?_
      refine S.p 7 2 112 7 HT_.out rfl rfl ?_
      refine S.p 7 5 115 39 HT_.out rfl rfl ?_
      refine S.t 7 3 113 47 HT_.out HW_.out rfl rfl hHeld ?_
      refine S.t 7 4 114 63 HT_.out HW_.out rfl rfl hHeld ?_
      refine last_ (i := 6) (N := none) (S.um 7 127) rfl rfl (one_of HT_.out (by kernel_rfl)) (by decide) (fun K hK => ?_)
      refine skip_ (w1 := wf) (by rfl) rfl ?_ ?_
      ·go_simp
      refine hK.out _ _ ?_; clear hK K
      refine done_ (done_of HT_.out (by kernel_rfl)) ?_; clear HT_ HW_ hHeld c2 k0 k1 hup
      go_wp2_with (fail)
      go_ret
      exact ⟨some ⟨g, 0, none⟩, c, by rw [rowL_len]; rfl, HVF.out, HMF.out, HSF.out⟩
   case neg =>
    by_cases hk4 : x.f0.f0 = 4
    case pos =>
     rw [hk4] at q0
     have b1 : ((4 : Int) == 1) = false := rfl
     have b2 : ((4 : Int) == 2) = false := rfl
     have x6 : w1.cell? ⟨w.heap.size, 6, none⟩ = some (.slice A6 x.f2.length c6) := (blk_cell KX1.out 6).trans rfl
     have HK4 := Lib.hid hk4
     have HR1 : Hid (Kd.R Kd.bool 4 w1 g (fun k => k = g) (.slice (some ⟨g, 0, none⟩) (ws.length + 1) c) (rowP ws.length (altP Lg ws x i 0))) := Lib.hid (by rw [← altP_zero]; exact HR.out)
     clear hk1 hk2 hk4 HR
     go_wp2_with (fail)
     clear x6 q0 b1 b2
     go_loopg [76] x.f2.length (fun kq v76 w' => ∃ (q : Nat), v76 = .int .i64 q ∧ Hid (q ≤ x.f2.length) ∧ Hid (kq = x.f2.length - q) ∧ Hid (Kd.R Kd.bool 4 w' g (fun k => k = g) (.slice (some ⟨g, 0, none⟩) (ws.length + 1) c) (rowP ws.length (altP Lg ws x i q))) ∧ Hid (Memo Lg ws bm (fun k => Z k ∨ k = g) w') ∧ Hid (Step bm w w') ∧ Hid (w'.heap[w.heap.size]? = some (NB x A4 c4 A6 c6)) ∧ Hid (w'.heap[w.heap.size + 1]? = some (.cells #[.int .i64 x.f1, .int .i64 (i : Int)] 79 (0, 0))) ∧ Hid (w'.heap[gm]? = some (.cells #[.slice Aw ws.length cw, .int .i64 0, .map (some bm)] 60 (0, 0))))
     case atStart => exact ⟨0, rfl, Lib.hid (Nat.zero_le _), Lib.hid rfl, HR1, HMz, HS1, KX1, KY1, M1⟩
     case round =>
      obtain ⟨q, rfl, HQL, HKQ, HRq, HMq, HSq, KXq, KYq, Mq⟩ := hrel
      clear HR1 HMz HS1 KX1 KY1 M1
      by_cases hlt : q < x.f2.length
      case pos =>
       have hqw : wrap64 ((q : Int) + 1) = ((q + 1 : Nat) : Int) := by have := (Kd.F_now HF.out).2.1; unfold wrap64; omega
       obtain ⟨ad, B4, b4, B6, b6, rfl, p0, p1, p2, p3, p4, p5, p6, hFK⟩ := kid_at (HST.out.trans HSq.out) (by have := HF.out; exact this) q hlt
       have hd1 : decide ((q : Int) < (x.f2.length : Int)) = true := decide_eq_true (by omega)
       have hd2 : decide (q < x.f2.length) = true := decide_eq_true hlt
       have hp0 : (0 ≤ (q : Int)) = True := eq_true (by omega)
       have hp1 : ((q : Int) < (x.f2.length : Int)) = True := eq_true (by omega)
       have hp2 : (q < x.f2.length) = True := eq_true hlt
       have htn : ((q : Int)).toNat = q := by omega
       have HFK := Lib.hid hFK; have HLT := Lib.hid hlt
       clear hFK hlt
       go_upto_region 16 with (fail)
       clear p0 p1 p2 p3 p4 p5 p6 hd1 hd2 hp0 hp1 hp2
       have hby := below_alloc (Below.refl wr.heap.size wr) (.cells #[.int .i64 (Pr.rd_T63 x.f2 (q : Int)).f0.f0, .int .i64 (Pr.rd_T63 x.f2 (q : Int)).f0.f1, .int .i64 (Pr.rd_T63 x.f2 (q : Int)).f0.f2, .int .i64 (Pr.rd_T63 x.f2 (q : Int)).f0.f3, .slice B4 (Pr.rd_T63 x.f2 (q : Int)).f0.f4.length b4, .int .i64 (Pr.rd_T63 x.f2 (q : Int)).f1, .slice B6 (Pr.rd_T63 x.f2 (q : Int)).f2.length b6] 63)
       have KNq : (wr.alloc (.cells #[.int .i64 (Pr.rd_T63 x.f2 (q : Int)).f0.f0, .int .i64 (Pr.rd_T63 x.f2 (q : Int)).f0.f1, .int .i64 (Pr.rd_T63 x.f2 (q : Int)).f0.f2, .int .i64 (Pr.rd_T63 x.f2 (q : Int)).f0.f3, .slice B4 (Pr.rd_T63 x.f2 (q : Int)).f0.f4.length b4, .int .i64 (Pr.rd_T63 x.f2 (q : Int)).f1, .slice B6 (Pr.rd_T63 x.f2 (q : Int)).f2.length b6] 63)).heap[wr.heap.size]? = some (.cells #[.int .i64 (Pr.rd_T63 x.f2 (q : Int)).f0.f0, .int .i64 (Pr.rd_T63 x.f2 (q : Int)).f0.f1, .int .i64 (Pr.rd_T63 x.f2 (q : Int)).f0.f2, .int .i64 (Pr.rd_T63 x.f2 (q : Int)).f0.f3, .slice B4 (Pr.rd_T63 x.f2 (q : Int)).f0.f4.length b4, .int .i64 (Pr.rd_T63 x.f2 (q : Int)).f1, .slice B6 (Pr.rd_T63 x.f2 (q : Int)).f2.length b6] 63 (0, 0)) := blk_new wr _
       have HS3 := Lib.hid (HSq.out.below hby (Nat.le_trans (Nat.le_of_lt HBM.out) HSq.out.size)); have KX3 := Lib.hid (blk_below KXq.out hby); have KY3 := Lib.hid (blk_below KYq.out hby); have M3 := Lib.hid (blk_below Mq.out hby); have HM3 := Lib.hid (HMq.out.below hby); have HR3 := Lib.hid (Kd.R_below HRq.out hby)
       clear hby HSq KXq KYq Mq HMq HRq
       generalize wr.alloc (.cells #[.int .i64 (Pr.rd_T63 x.f2 (q : Int)).f0.f0, .int .i64 (Pr.rd_T63 x.f2 (q : Int)).f0.f1, .int .i64 (Pr.rd_T63 x.f2 (q : Int)).f0.f2, .int .i64 (Pr.rd_T63 x.f2 (q : Int)).f0.f3, .slice B4 (Pr.rd_T63 x.f2 (q : Int)).f0.f4.length b4, .int .i64 (Pr.rd_T63 x.f2 (q : Int)).f1, .slice B6 (Pr.rd_T63 x.f2 (q : Int)).f2.length b6] 63) = wq at KNq HS3 KX3 KY3 M3 HM3 HR3 ⊢
       generalize wr.heap.size = gq at KNq ⊢
       obtain ⟨n0, n1, n2, n3, n4, n5, n6⟩ := seven KNq
       go_wp2_with (fail)
       clear n0 n1 n2 n3 n4 n5 n6 KNq
       refine (FromOk.call (HKID.out (.inr HK4.out) q HLT.out) (fun k => Z k ∨ k = g) wq i B4 b4 B6 b6 (HST.out.trans HS3.out) HM3.out (fun h => h.elim HZB.out (fun h => HGB.out h.symm)) (fun k hk => hk.elim (fun h => Nat.lt_of_lt_of_le (HZ.out k h) HS3.out.size) (fun h => by rw [h]; exact Kd.R_lt HR3.out g rfl)) HI.out HFK.out).mono ?_
       rintro e w4 ⟨A3, c3, rfl, hv4, hm4, hs4⟩
       have HR4 := Lib.hid (Kd.R_kept HR3.out hs4.k (fun k h1 h2 => by subst h1; exact HGB.out h2))
       have HV4 := Lib.hid hv4; have HM4 := Lib.hid hm4; have HS4 := Lib.hid (HS3.out.trans hs4); have KX4 := Lib.hid (blk_kept KX3.out hs4.k (fun h => by have h' : w.heap.size = bm := h; have := HBM.out; omega)); have KY4 := Lib.hid (blk_kept KY3.out hs4.k (fun h => by have h' : w.heap.size + 1 = bm := h; have := HBM.out; omega)); have M4 := Lib.hid (blk_kept M3.out hs4.k (fun h => HE.out.ne h))
       clear hv4 hm4 hs4 HR3 HM3 HS3 KX3 KY3 M3 HFK
       have hlr : (rowL ws (Lg (Pr.rd_T63 x.f2 (q : Int)).f1) i).length = ws.length + 1 := rowL_len _ _ _
       go_wp2_with (fail)
       clear hlr
       refine calls_of_args (args' := #[.slice (some ⟨g, 0, none⟩) (ws.length + 1) c, .slice A3 (rowP ws.length (To ws (Lg (Pr.rd_T63 x.f2 (q : Int)).f1) i)).length c3]) (by rw [rowP_len]) ((join_calls ws.length HN.out (altP Lg ws x i q) (To ws (Lg (Pr.rd_T63 x.f2 (q : Int)).f1) i) w4 g c A3 c3 HR4.out (Kd.V_mono HV4.out (fun k hk h => hk.2 (.inr h)))).mono ?_)
       rintro e w5 ⟨⟨mm, rfl, _⟩, hr5, hk5, hb5⟩
       rw [altP_step] at hr5
       have HR5 := Lib.hid hr5
       have HM5 := Lib.hid (HM4.out.kept hk5 (fun k h => .inr h) (fun h => h.elim HZB.out (fun h => HGB.out h.symm)))
       have HS5 : Hid (Step bm w w5) := Lib.hid ⟨HS4.out.k.then_ hk5 (fun k h => .inr (by have h' : k = g := h; have := HG.out; omega)), HS4.out.b.trans (hb5.mono (by have := HG.out; have := HBM.out; omega))⟩
       have KX5 := Lib.hid (blk_kept KX4.out hk5 (fun h => by have h' : w.heap.size = g := h; have := HG.out; omega)); have KY5 := Lib.hid (blk_kept KY4.out hk5 (fun h => by have h' : w.heap.size + 1 = g := h; have := HG.out; omega)); have M5 := Lib.hid (blk_kept M4.out hk5 (fun h => by have h' : gm = g := h; have h2 := HGM.out; omega))
       clear hr5 hk5 hb5 HR4 HV4 HM4 HS4 KX4 KY4 M4
       go_wp2_with (fail)
       go_roundg (x.f2.length - (q + 1))
       case measure => have h1 := HLT.out; have h2 := HKQ.out; omega
       case rel => exact ⟨q + 1, by rw [hqw], Lib.hid HLT.out, Lib.hid rfl, HR5, HM5, HS5, KX5, KY5, M5⟩
      case neg =>
       have hq : q = x.f2.length := by have := HQL.out; omega
       have hd1 : decide ((q : Int) < (x.f2.length : Int)) = false := decide_eq_false (by omega)
       have hd2 : decide (q < x.f2.length) = false := decide_eq_false hlt
       have HM2 := Lib.hid (HMq.out.zone (Z' := Z) (fun k h => .inl (.inl h)))
       have HV2 : Hid (RowV bm Z wr (some ⟨g, 0, none⟩) c (rowL ws (Lg x.f1) i)) := Lib.hid (by rw [← row4 HLG.out HK4.out HMAP.out HKL.out, ← hq]; exact R_view HRq.out ⟨HGB.out, HGZ.out⟩)
       clear HMq HRq hlt
       have hqq := Lib.hid hq; clear hq
       obtain ⟨wf, hup, hmf, hsf, hvf⟩ := Memo.put (Memo.drew HM2.out) HID0.out HID1.out HI.out HN.out (Kd.V_drew HV2.out)
       have HMF := Lib.hid hmf; have HSF := Lib.hid (HSq.out.drew.trans hsf); have HVF := Lib.hid hvf
       clear hmf hsf hvf
       rw [rowL_len] at hup
       have c2 : wr.drew.cell? ⟨gm, 2, none⟩ = some (.map (some bm)) := (blk_cell (blk_drew Mq.out) 2).trans rfl
       have k0 : wr.drew.cell? ⟨w.heap.size + 1, 0, none⟩ = some (.int .i64 x.f1) := (blk_cell (blk_drew KYq.out) 0).trans rfl
       have k1 : wr.drew.cell? ⟨w.heap.size + 1, 1, none⟩ = some (.int .i64 (i : Int)) := (blk_cell (blk_drew KYq.out) 1).trans rfl
       go_upto_region 27 with (fail)
       refine start_ (n := 7) (S := fun w' => w'.cell? ⟨gm, 2, none⟩ = some (.map (some bm)) ∧ w'.cell? ⟨w.heap.size + 1, 0, none⟩ = some (.int .i64 x.f1) ∧ w'.cell? ⟨w.heap.size + 1, 1, none⟩ = some (.int .i64 (i : Int))) (ds := [6]) (S.um 7 0) (by kernel_rfl) rfl rfl ⟨c2, k0, k1⟩ (fun hHeld => ?_); refine with_tabW RF27.tab RF27.bits (fun HT_ HW_ => ?_)
       refine S.p 7 0 110 1 HT_.out rfl rfl ?_
       refine S.p 7 1 111 3 HT_.out rfl rfl ?_
       refine S.p 7 2 112 7 HT_.out rfl rfl ?_
       refine S.p 7 5 115 39 HT_.out rfl rfl ?_
       refine S.t 7 3 113 47 HT_.out HW_.out rfl rfl hHeld ?_
       refine S.t 7 4 114 63 HT_.out HW_.out rfl rfl hHeld ?_
       refine last_ (i := 6) (N := none) (S.um 7 127) rfl rfl (one_of HT_.out (by kernel_rfl)) (by decide) (fun K hK => ?_)
       refine skip_ (w1 := wf) (by rfl) rfl ?_ ?_
       ·go_simp
       refine hK.out _ _ ?_; clear hK K
       refine done_ (done_of HT_.out (by kernel_rfl)) ?_; clear HT_ HW_ hHeld c2 k0 k1 hup
       go_wp2_with (fail)
       go_ret
       exact ⟨some ⟨g, 0, none⟩, c, by rw [rowL_len]; rfl, HVF.out, HMF.out, HSF.out⟩
    case neg =>
     by_cases hk3 : x.f0.f0 = 3
     case pos =>
      rw [hk3] at q0
      have b1 : ((3 : Int) == 1) = false := rfl
      have b2 : ((3 : Int) == 2) = false := rfl
      have b3 : ((3 : Int) == 4) = false := rfl
      have HK3 := Lib.hid hk3
      clear hk1 hk2 hk4 hk3
      have hiw := HI.out
      have hR_ : Kd.R Kd.bool 4 w1 g (fun k => k = g) (.slice (some ⟨g, 0, none⟩) (rowP ws.length (fun _ => False)).length c) (rowP ws.length (fun _ => False)) := by rw [rowP_len]; exact HR.out
      obtain ⟨hcl, hfz⟩ := Kd.R_cell false hR_ ((i : Nat) : Int) (by omega) (by rw [rowP_len]; omega)
      have hpt := Kd.R_put hR_ ((i : Nat) : Int) true
      rw [Int.toNat_natCast] at hcl hfz hpt
      rw [rowP_set (by omega), rowP_len] at hpt
      rw [seqP_zero (x := x) ws.length HI.out] at hpt
      have hp0 : (0 ≤ (i : Int)) = True := eq_true (by omega)
      have hp1 : ((i : Int) < (ws.length : Int) + 1) = True := eq_true (by omega)
      go_upto_region 20 with (fail)
      clear hcl hfz hp0 hp1 hiw q0 b1 b2 b3
      have hk1_ : Kept w1 (w1.setCell ⟨g, i, none⟩ (.bool true)) (fun k => k = g) := Kept.setCell (S := fun k => k = g) (Kept.refl w1 _) (p := ⟨g, i, none⟩) (.inl rfl) _
      have HM2 := Lib.hid ((HMz.out.kept hk1_ (fun k h => .inr h) (fun h => h.elim HZB.out (fun h => HGB.out h.symm))).zone (Z' := Z) (fun k h => .inl (.inl h)))
      have HS2 := Lib.hid (HS1.out.set (p := ⟨g, i, none⟩) (by show w.heap.size ≤ g; have := HG.out; omega) (by show bm ≤ g; have := HG.out; have := HBM.out; omega) (.bool true))
      have KX2 := Lib.hid (blk_kept KX1.out hk1_ (fun h => by have h' : w.heap.size = g := h; have := HG.out; omega))
      have KY2 := Lib.hid (blk_kept KY1.out hk1_ (fun h => by have h' : w.heap.size + 1 = g := h; have := HG.out; omega))
      have M2 := Lib.hid (M1.out |> fun h => blk_kept h hk1_ (fun h => by have h' : gm = g := h; have h2 := HGM.out; omega))
      have HV2 : Hid (RowV bm Z (w1.setCell ⟨g, i, none⟩ (.bool true)) (some ⟨g, 0, none⟩) c _) := Lib.hid (R_view (show Kd.R Kd.bool 4 (w1.setCell ⟨g, i, none⟩ (.bool true)) g (fun k => k = g) (.slice (some ⟨g, 0, none⟩) (ws.length + 1) c) _ from hpt.1) ⟨HGB.out, HGZ.out⟩)
      clear HMz HS1 KX1 KY1 M1 HR hk1_ hpt hR_
      generalize w1.setCell ⟨g, i, none⟩ (.bool true) = w2 at HM2 HS2 KX2 KY2 M2 HV2 ⊢
      have x6 : w2.cell? ⟨w.heap.size, 6, none⟩ = some (.slice A6 x.f2.length c6) := (blk_cell KX2.out 6).trans rfl
      go_wp2_with (fail)
      clear x6
      go_loopg [10, 95] x.f2.length (fun kq v10 v95 w' => ∃ (q : Nat) (Al : Option Addr) (cl : Nat), v10 = .slice Al (ws.length + 1) cl ∧ v95 = .int .i64 q ∧ Hid (q ≤ x.f2.length) ∧ Hid (kq = x.f2.length - q) ∧ Hid (RowV bm Z w' Al cl (rowP ws.length (seqP ws x i q))) ∧ Hid (Memo Lg ws bm Z w') ∧ Hid (Step bm w w') ∧ Hid (w'.heap[w.heap.size]? = some (NB x A4 c4 A6 c6)) ∧ Hid (w'.heap[w.heap.size + 1]? = some (.cells #[.int .i64 x.f1, .int .i64 (i : Int)] 79 (0, 0))) ∧ Hid (w'.heap[gm]? = some (.cells #[.slice Aw ws.length cw, .int .i64 0, .map (some bm)] 60 (0, 0))))
      case atStart => exact ⟨0, some ⟨g, 0, none⟩, c, rfl, rfl, Lib.hid (Nat.zero_le _), Lib.hid rfl, HV2, HM2, HS2, KX2, KY2, M2⟩
      case round =>
       obtain ⟨q, Al, cl, rfl, rfl, HQL, HKQ, HVq, HMq, HSq, KXq, KYq, Mq⟩ := hrel
       clear HV2 HM2 HS2 KX2 KY2 M2
       by_cases hlt : q < x.f2.length
       case pos =>
        have hqw : wrap64 ((q : Int) + 1) = ((q + 1 : Nat) : Int) := by have := (Kd.F_now HF.out).2.1; unfold wrap64; omega
        obtain ⟨ad, B4, b4, B6, b6, rfl, p0, p1, p2, p3, p4, p5, p6, hFK⟩ := kid_at (HST.out.trans HSq.out) (by have := HF.out; exact this) q hlt
        have hd1 : decide ((q : Int) < (x.f2.length : Int)) = true := decide_eq_true (by omega)
        have hd2 : decide (q < x.f2.length) = true := decide_eq_true hlt
        have hp0 : (0 ≤ (q : Int)) = True := eq_true (by omega)
        have hp1 : ((q : Int) < (x.f2.length : Int)) = True := eq_true (by omega)
        have hp2 : (q < x.f2.length) = True := eq_true hlt
        have htn : ((q : Int)).toNat = q := by omega
        have HFK := Lib.hid hFK; have HLT := Lib.hid hlt
        clear hFK hlt
        go_upto_region 23 with (fail)
        clear p0 p1 p2 p3 p4 p5 p6 hd1 hd2 hp0 hp1 hp2
        have hby := below_alloc (Below.refl wr.heap.size wr) (.cells #[.int .i64 (Pr.rd_T63 x.f2 (q : Int)).f0.f0, .int .i64 (Pr.rd_T63 x.f2 (q : Int)).f0.f1, .int .i64 (Pr.rd_T63 x.f2 (q : Int)).f0.f2, .int .i64 (Pr.rd_T63 x.f2 (q : Int)).f0.f3, .slice B4 (Pr.rd_T63 x.f2 (q : Int)).f0.f4.length b4, .int .i64 (Pr.rd_T63 x.f2 (q : Int)).f1, .slice B6 (Pr.rd_T63 x.f2 (q : Int)).f2.length b6] 63)
        have KNq : (wr.alloc (.cells #[.int .i64 (Pr.rd_T63 x.f2 (q : Int)).f0.f0, .int .i64 (Pr.rd_T63 x.f2 (q : Int)).f0.f1, .int .i64 (Pr.rd_T63 x.f2 (q : Int)).f0.f2, .int .i64 (Pr.rd_T63 x.f2 (q : Int)).f0.f3, .slice B4 (Pr.rd_T63 x.f2 (q : Int)).f0.f4.length b4, .int .i64 (Pr.rd_T63 x.f2 (q : Int)).f1, .slice B6 (Pr.rd_T63 x.f2 (q : Int)).f2.length b6] 63)).heap[wr.heap.size]? = some (.cells #[.int .i64 (Pr.rd_T63 x.f2 (q : Int)).f0.f0, .int .i64 (Pr.rd_T63 x.f2 (q : Int)).f0.f1, .int .i64 (Pr.rd_T63 x.f2 (q : Int)).f0.f2, .int .i64 (Pr.rd_T63 x.f2 (q : Int)).f0.f3, .slice B4 (Pr.rd_T63 x.f2 (q : Int)).f0.f4.length b4, .int .i64 (Pr.rd_T63 x.f2 (q : Int)).f1, .slice B6 (Pr.rd_T63 x.f2 (q : Int)).f2.length b6] 63 (0, 0)) := blk_new wr _
        have HS3 := Lib.hid (HSq.out.below hby (Nat.le_trans (Nat.le_of_lt HBM.out) HSq.out.size)); have KX3 := Lib.hid (blk_below KXq.out hby); have KY3 := Lib.hid (blk_below KYq.out hby); have M3 := Lib.hid (blk_below Mq.out hby); have HM3 := Lib.hid (HMq.out.below hby); have HV3 := Lib.hid (Kd.V_below HVq.out hby)
        clear hby HSq KXq KYq Mq HMq HVq
        generalize wr.alloc (.cells #[.int .i64 (Pr.rd_T63 x.f2 (q : Int)).f0.f0, .int .i64 (Pr.rd_T63 x.f2 (q : Int)).f0.f1, .int .i64 (Pr.rd_T63 x.f2 (q : Int)).f0.f2, .int .i64 (Pr.rd_T63 x.f2 (q : Int)).f0.f3, .slice B4 (Pr.rd_T63 x.f2 (q : Int)).f0.f4.length b4, .int .i64 (Pr.rd_T63 x.f2 (q : Int)).f1, .slice B6 (Pr.rd_T63 x.f2 (q : Int)).f2.length b6] 63) = wq at KNq HS3 KX3 KY3 M3 HM3 HV3 ⊢
        generalize wr.heap.size = gq at KNq ⊢
        obtain ⟨n0, n1, n2, n3, n4, n5, n6⟩ := seven KNq
        go_wp2_with (fail)
        clear n0 n1 n2 n3 n4 n5 n6 KNq
        refine calls_of_args (args' := #[.pointer (some ⟨gm, 0, none⟩), NV (Pr.rd_T63 x.f2 (q : Int)) B4 b4 B6 b6, .slice Al (rowP ws.length (seqP ws x i q)).length cl]) (by rw [rowP_len]) ((OnOk.call (on_calls Lg W0 gm bm ws Aw cw _ HE.out (HKID.out (.inl HK3.out) q HLT.out)) Z wq (seqP ws x i q) Al cl B4 b4 B6 b6 (HST.out.trans HS3.out) HM3.out HZB.out (fun k hk => Nat.lt_of_lt_of_le (HZ.out k hk) HS3.out.size) (Kd.V_mono HV3.out (fun k hk => hk.1)) HFK.out).mono ?_)
        rintro e w4 ⟨A3, c3, he, hv4, hm4, hs4⟩
        rw [seqP_step HMAP.out HKL.out HLT.out] at he hv4
        rw [rowP_len] at he
        subst he
        have HV4 := Lib.hid hv4; have HM4 := Lib.hid hm4; have HS4 := Lib.hid (HS3.out.trans hs4); have KX4 := Lib.hid (blk_kept KX3.out hs4.k (fun h => by have h' : w.heap.size = bm := h; have := HBM.out; omega)); have KY4 := Lib.hid (blk_kept KY3.out hs4.k (fun h => by have h' : w.heap.size + 1 = bm := h; have := HBM.out; omega)); have M4 := Lib.hid (blk_kept M3.out hs4.k (fun h => HE.out.ne h))
        clear hv4 hm4 hs4 HV3 HM3 HS3 KX3 KY3 M3 HFK
        go_wp2_with (fail)
        go_roundg (x.f2.length - (q + 1))
        case measure => have h1 := HLT.out; have h2 := HKQ.out; omega
        case rel => exact ⟨q + 1, A3, c3, rfl, by rw [hqw], Lib.hid HLT.out, Lib.hid rfl, HV4, HM4, HS4, KX4, KY4, M4⟩
       case neg =>
        have hq : q = x.f2.length := by have := HQL.out; omega
        have hd1 : decide ((q : Int) < (x.f2.length : Int)) = false := decide_eq_false (by omega)
        have hd2 : decide (q < x.f2.length) = false := decide_eq_false hlt
        have HV2 : Hid (RowV bm Z wr Al cl (rowL ws (Lg x.f1) i)) := Lib.hid (by rw [← row3 HLG.out HK3.out HMAP.out, ← hq]; exact HVq.out)
        clear HVq hlt
        have hqq := Lib.hid hq; clear hq
        obtain ⟨wf, hup, hmf, hsf, hvf⟩ := Memo.put (Memo.drew HMq.out) HID0.out HID1.out HI.out HN.out (Kd.V_drew HV2.out)
        have HMF := Lib.hid hmf; have HSF := Lib.hid (HSq.out.drew.trans hsf); have HVF := Lib.hid hvf
        clear hmf hsf hvf
        rw [rowL_len] at hup
        have c2 : wr.drew.cell? ⟨gm, 2, none⟩ = some (.map (some bm)) := (blk_cell (blk_drew Mq.out) 2).trans rfl
        have k0 : wr.drew.cell? ⟨w.heap.size + 1, 0, none⟩ = some (.int .i64 x.f1) := (blk_cell (blk_drew KYq.out) 0).trans rfl
        have k1 : wr.drew.cell? ⟨w.heap.size + 1, 1, none⟩ = some (.int .i64 (i : Int)) := (blk_cell (blk_drew KYq.out) 1).trans rfl
        go_upto_region 27 with (fail)
        refine start_ (n := 7) (S := fun w' => w'.cell? ⟨gm, 2, none⟩ = some (.map (some bm)) ∧ w'.cell? ⟨w.heap.size + 1, 0, none⟩ = some (.int .i64 x.f1) ∧ w'.cell? ⟨w.heap.size + 1, 1, none⟩ = some (.int .i64 (i : Int))) (ds := [6]) (S.um 7 0) (by kernel_rfl) rfl rfl ⟨c2, k0, k1⟩ (fun hHeld => ?_); refine with_tabW RF27.tab RF27.bits (fun HT_ HW_ => ?_)
        refine S.p 7 0 110 1 HT_.out rfl rfl ?_
        refine S.p 7 1 111 3 HT_.out rfl rfl ?_
        refine S.p 7 2 112 7 HT_.out rfl rfl ?_
        refine S.p 7 5 115 39 HT_.out rfl rfl ?_
        refine S.t 7 3 113 47 HT_.out HW_.out rfl rfl hHeld ?_
        refine S.t 7 4 114 63 HT_.out HW_.out rfl rfl hHeld ?_
        refine last_ (i := 6) (N := none) (S.um 7 127) rfl rfl (one_of HT_.out (by kernel_rfl)) (by decide) (fun K hK => ?_)
        refine skip_ (w1 := wf) (by rfl) rfl ?_ ?_
        ·go_simp
        refine hK.out _ _ ?_; clear hK K
        refine done_ (done_of HT_.out (by kernel_rfl)) ?_; clear HT_ HW_ hHeld c2 k0 k1 hup
        go_wp2_with (fail)
        go_ret
        exact ⟨Al, cl, by rw [rowL_len]; rfl, HVF.out, HMF.out, HSF.out⟩
     case neg =>
      by_cases hk5 : x.f0.f0 = 5
      case pos =>
       rw [hk5] at q0
       have b1 : ((5 : Int) == 1) = false := rfl
       have b2 : ((5 : Int) == 2) = false := rfl
       have b3 : ((5 : Int) == 4) = false := rfl
       have b4 : ((5 : Int) == 3) = false := rfl
       have HK5 := Lib.hid hk5
       obtain ⟨n0, n1, n2, n3, n4, n5, n6⟩ := seven KX1.out
       rw [hk5] at n0
       have HM3 := Lib.hid (HMz.out.zone (Z' := Z) (fun k h => .inl (.inl h)))
       clear hk1 hk2 hk4 hk3 hk5 HR HMz q0
       go_wp2_with (fail)
       clear n0 n1 n2 n3 n4 n5 n6 b1 b2 b3 b4
       refine calls_of_args (args' := #[.pointer (some ⟨gm, 0, none⟩), NV x A4 c4 A6 c6, .int .i64 (i : Int)]) (by unfold NV; rw [HK5.out]) ((HAG.out HK5.out Z w1 i A4 c4 A6 c6 (HST.out.trans HS1.out) HM3.out HZB.out (fun k hk => Nat.lt_of_lt_of_le (HZ.out k hk) HS1.out.size) HI.out HXK.out).mono ?_)
       rintro e w4 ⟨A3, c3, he, hv4, hm4, hs4⟩
       have hlen1 : x.f2.length = 1 := by
        have h1 := HWF.out
        cases h1 with
        | mk _ h1 _ => rw [← (h1 HK5.out).1, ← HMAP.out, List.length_map]
       rw [row5 HLG.out HK5.out HMAP.out HKL.out hlen1] at he hv4
       rw [rowL_len] at he
       subst he
       have HV2 := Lib.hid hv4; have HM2 := Lib.hid hm4; have HS2 := Lib.hid (HS1.out.trans hs4); have KX2 := Lib.hid (blk_kept KX1.out hs4.k (fun h => by have h' : w.heap.size = bm := h; have := HBM.out; omega)); have KY2 := Lib.hid (blk_kept KY1.out hs4.k (fun h => by have h' : w.heap.size + 1 = bm := h; have := HBM.out; omega)); have M2 := Lib.hid (blk_kept M1.out hs4.k (fun h => HE.out.ne h))
       clear hv4 hm4 hs4 HM3 HS1 KX1 KY1 M1 hlen1
       obtain ⟨wf, hup, hmf, hsf, hvf⟩ := Memo.put (Memo.drew HM2.out) HID0.out HID1.out HI.out HN.out (Kd.V_drew HV2.out)
       have HMF := Lib.hid hmf; have HSF := Lib.hid (HS2.out.drew.trans hsf); have HVF := Lib.hid hvf
       clear hmf hsf hvf
       rw [rowL_len] at hup
       have c2 : w4.drew.cell? ⟨gm, 2, none⟩ = some (.map (some bm)) := (blk_cell (blk_drew M2.out) 2).trans rfl
       have k0 : w4.drew.cell? ⟨w.heap.size + 1, 0, none⟩ = some (.int .i64 x.f1) := (blk_cell (blk_drew KY2.out) 0).trans rfl
       have k1 : w4.drew.cell? ⟨w.heap.size + 1, 1, none⟩ = some (.int .i64 (i : Int)) := (blk_cell (blk_drew KY2.out) 1).trans rfl
       go_upto_region 27 with (fail)
       refine start_ (n := 7) (S := fun w' => w'.cell? ⟨gm, 2, none⟩ = some (.map (some bm)) ∧ w'.cell? ⟨w.heap.size + 1, 0, none⟩ = some (.int .i64 x.f1) ∧ w'.cell? ⟨w.heap.size + 1, 1, none⟩ = some (.int .i64 (i : Int))) (ds := [6]) (S.um 7 0) (by kernel_rfl) rfl rfl ⟨c2, k0, k1⟩ (fun hHeld => ?_); refine with_tabW RF27.tab RF27.bits (fun HT_ HW_ => ?_)
       refine S.p 7 0 110 1 HT_.out rfl rfl ?_
       refine S.p 7 1 111 3 HT_.out rfl rfl ?_
       refine S.p 7 2 112 7 HT_.out rfl rfl ?_
       refine S.p 7 5 115 39 HT_.out rfl rfl ?_
       refine S.t 7 3 113 47 HT_.out HW_.out rfl rfl hHeld ?_
       refine S.t 7 4 114 63 HT_.out HW_.out rfl rfl hHeld ?_
       refine last_ (i := 6) (N := none) (S.um 7 127) rfl rfl (one_of HT_.out (by kernel_rfl)) (by decide) (fun K hK => ?_)
       refine skip_ (w1 := wf) (by rfl) rfl ?_ ?_
       ·go_simp
       refine hK.out _ _ ?_; clear hK K
       refine done_ (done_of HT_.out (by kernel_rfl)) ?_; clear HT_ HW_ hHeld c2 k0 k1 hup
       go_wp2_with (fail)
       go_ret
       exact ⟨A3, c3, by rw [rowL_len]; rfl, HVF.out, HMF.out, HSF.out⟩
      case neg =>
       have b1 : (x.f0.f0 == 1) = false := by simpa using hk1
       have b2 : (x.f0.f0 == 2) = false := by simpa using hk2
       have b3 : (x.f0.f0 == 4) = false := by simpa using hk4
       have b4 : (x.f0.f0 == 3) = false := by simpa using hk3
       have b5 : (x.f0.f0 == 5) = false := by simpa using hk5
       have HM2 := Lib.hid (HMz.out.zone (Z' := Z) (fun k h => .inl (.inl h)))
       have HV2 : Hid (RowV bm Z w1 (some ⟨g, 0, none⟩) c (rowL ws (Lg x.f1) i)) := Lib.hid (by rw [← row0 HLG.out hk1 hk2 hk3 hk4 hk5]; exact R_view HR.out ⟨HGB.out, HGZ.out⟩)
       clear HMz HR hk1 hk2 hk3 hk4 hk5
       obtain ⟨wf, hup, hmf, hsf, hvf⟩ := Memo.put (Memo.drew HM2.out) HID0.out HID1.out HI.out HN.out (Kd.V_drew HV2.out)
       have HMF := Lib.hid hmf; have HSF := Lib.hid (HS1.out.drew.trans hsf); have HVF := Lib.hid hvf
       clear hmf hsf hvf
       rw [rowL_len] at hup
       have c2 : w1.drew.cell? ⟨gm, 2, none⟩ = some (.map (some bm)) := (blk_cell (blk_drew M1.out) 2).trans rfl
       have k0 : w1.drew.cell? ⟨w.heap.size + 1, 0, none⟩ = some (.int .i64 x.f1) := (blk_cell (blk_drew KY1.out) 0).trans rfl
       have k1 : w1.drew.cell? ⟨w.heap.size + 1, 1, none⟩ = some (.int .i64 (i : Int)) := (blk_cell (blk_drew KY1.out) 1).trans rfl
       go_upto_region 27 with (fail)
       refine start_ (n := 7) (S := fun w' => w'.cell? ⟨gm, 2, none⟩ = some (.map (some bm)) ∧ w'.cell? ⟨w.heap.size + 1, 0, none⟩ = some (.int .i64 x.f1) ∧ w'.cell? ⟨w.heap.size + 1, 1, none⟩ = some (.int .i64 (i : Int))) (ds := [6]) (S.um 7 0) (by kernel_rfl) rfl rfl ⟨c2, k0, k1⟩ (fun hHeld => ?_); refine with_tabW RF27.tab RF27.bits (fun HT_ HW_ => ?_)
       refine S.p 7 0 110 1 HT_.out rfl rfl ?_
       refine S.p 7 1 111 3 HT_.out rfl rfl ?_
       refine S.p 7 2 112 7 HT_.out rfl rfl ?_
       refine S.p 7 5 115 39 HT_.out rfl rfl ?_
       refine S.t 7 3 113 47 HT_.out HW_.out rfl rfl hHeld ?_
       refine S.t 7 4 114 63 HT_.out HW_.out rfl rfl hHeld ?_
       refine last_ (i := 6) (N := none) (S.um 7 127) rfl rfl (one_of HT_.out (by kernel_rfl)) (by decide) (fun K hK => ?_)
       refine skip_ (w1 := wf) (by rfl) rfl ?_ ?_
       ·go_simp
       refine hK.out _ _ ?_; clear hK K
       refine done_ (done_of HT_.out (by kernel_rfl)) ?_; clear HT_ HW_ hHeld c2 k0 k1 hup q0 b1 b2 b3 b4 b5
       go_wp2_with (fail)
       go_ret
       exact ⟨some ⟨g, 0, none⟩, c, by rw [rowL_len]; rfl, HVF.out, HMF.out, HSF.out⟩
end Go.Proofs.YthocjdlcopmhiaaDoor.G
namespace Go.Proofs.YthocjdlcopmhiaaDoor.G
open Go.RowKit Go.Proofs.YthocjdlcopmhiaaDoorW.PrintWords Go.Proofs.YthocjdlcopmhiaaDoorW.PrintLast Go.Proofs.YthocjdlcopmhiaaDoorW.PrintMore
attribute [local go_sem] max2_int min2_int max_two min_two max_three min_three max_four min_four
set_option linter.unusedVariables false
set_option linter.unusedSimpArgs false
open GP (Cat Eps Pow)
inductive InR (a b : Int) : Pr.S63 → Prop
 | mk (x : Pr.S63) : a ≤ x.f1 → x.f1 < b → (∀ i : Nat, i < x.f2.length → InR a b (Pr.rd_T63 x.f2 i)) → InR a b x
theorem InR.mono {a b a' b' : Int} {x : Pr.S63} (h : InR a b x) (h1 : a' ≤ a) (h2 : b ≤ b') : InR a' b' x := by
 induction h with
 | mk x h3 h4 _ ih => exact .mk x (by omega) (by omega) ih
theorem Lab.agree {Lg Lg' : Int → List Int → Prop} {a b : Int} (hL : ∀ i, a ≤ i → i < b → Lg' i = Lg i) {x : Pr.S63} (h : Lab Lg x) : InR a b x → Lab Lg' x := by
 induction h with
 | mk x h0 h1 h2 h3 _ ih =>
  intro hr
  cases hr with
  | mk _ r1 r2 r3 => exact .mk x h0 h1 (fun v => by rw [hL _ r1 r2]; exact h2 v) h3 (fun i hi => ih i hi (r3 i hi))
theorem num_mono (k j : Nat) (y0 y1 y2 y3 : Int) (y4 : List Pr.S24) (y5 : Int) {r} (h : Pr.glush_number.f k y0 y1 y2 y3 y4 y5 = some r) (hkj : k ≤ j) : Pr.glush_number.f j y0 y1 y2 y3 y4 y5 = some r :=
 at_rounds (g := fun k => Pr.glush_number.f k y0 y1 y2 y3 y4 y5) (fun k => (Pr.glush_number.mono_l k).1 y0 y1 y2 y3 y4 y5) hkj h
theorem num0_mono (k j : Nat) (y0 : Int) (y1 : List Pr.S24) (y2 y3 y4 y5 y6 y7 : Int) (y8 : List Pr.S24) (y9 : Int) (y10 : List Pr.S63) {r} (h : Pr.glush_number.l0 k y0 y1 y2 y3 y4 y5 y6 y7 y8 y9 y10 = some r) (hkj : k ≤ j) : Pr.glush_number.l0 j y0 y1 y2 y3 y4 y5 y6 y7 y8 y9 y10 = some r :=
 at_rounds (g := fun k => Pr.glush_number.l0 k y0 y1 y2 y3 y4 y5 y6 y7 y8 y9 y10) (fun k => (Pr.glush_number.mono_l k).2 y0 y1 y2 y3 y4 y5 y6 y7 y8 y9 y10) hkj h
def NumOk (e : Pr.S24) : Prop := ∀ id : Int, 0 ≤ id → id + szE e < 1000000 → ∃ (k : Nat) (kids : List Pr.S63), Pr.glush_number.f k e.f0 e.f1 e.f2 e.f3 e.f4 id = some (e.f0, e.f1, e.f2, e.f3, e.f4, id, kids, id + szE e) ∧ InR id (id + szE e) ⟨e, id, kids⟩ ∧ ∀ Lg0 : Int → List Int → Prop, ∃ Lg, (∀ i, i < id ∨ id + szE e ≤ i → Lg i = Lg0 i) ∧ Lab Lg ⟨e, id, kids⟩
theorem rd24_at {l : List Pr.S24} {j : Nat} {y : Pr.S24} (h : l[j]? = some y) : Pr.rd_T24 l (j : Int) = y := by
 unfold Pr.rd_T24
 rw [Int.toNat_natCast, List.getD_eq_getElem?_getD, h]
 rfl
theorem num_loop (l : List Pr.S24) (hl : l.length < 4611686018427387904) (x0 x1 x2 x3 : Int) (x4 : List Pr.S24) (x5 : Int) (hn : ∀ y ∈ l, NumOk y) : ∀ (d j : Nat) (id : Int) (acc : List Pr.S63), l.length = j + d → acc.length = j → j < 1000000 → l.length < 1000000 → 0 ≤ id → id + szL (l.drop j) < 1000000 →
  ∃ (k : Nat) (rest : List Pr.S63), Pr.glush_number.l0 k id l (l.length : Int) (j : Int) x0 x1 x2 x3 x4 x5 acc = some (x0, x1, x2, x3, x4, x5, acc ++ rest, id + szL (l.drop j)) ∧ rest.map (·.f0) = l.drop j ∧ (∀ i : Nat, i < rest.length → InR id (id + szL (l.drop j)) (Pr.rd_T63 rest i)) ∧
   ∀ Lg0 : Int → List Int → Prop, ∃ Lg, (∀ i, i < id ∨ id + szL (l.drop j) ≤ i → Lg i = Lg0 i) ∧ ∀ i : Nat, i < rest.length → Lab Lg (Pr.rd_T63 rest i) := by
 intro d
 induction d with
 | zero =>
  intro j id acc he ha hj hlm h0 h1
  have hd : l.drop j = [] := List.drop_of_length_le (by omega)
  rw [hd]
  refine ⟨1, [], ?_, rfl, fun i hi => by simp at hi, fun Lg0 => ⟨Lg0, fun _ _ => rfl, fun i hi => by simp at hi⟩⟩
  simp only [Pr.glush_number.l0]
  rw [if_neg (by omega)]
  simp [szL]
 | succ d ih =>
  intro j id acc he ha hj hlm h0 h1
  have hjl : j < l.length := by omega
  have hd : l.drop j = l[j] :: l.drop (j + 1) := List.drop_eq_getElem_cons hjl
  rw [hd] at h1 ⊢
  simp only [szL] at h1 ⊢
  obtain ⟨k1, kids, e1, r1, g1⟩ := hn l[j] (List.getElem_mem hjl) id h0 (by omega)
  obtain ⟨k2, rest, e2, m2, r2, g2⟩ := ih (j + 1) (id + szE l[j]) (acc ++ [⟨l[j], id, kids⟩]) (by omega) (by simp [ha]) (by omega) hlm (by omega) (by omega)
  have hw : wrap64 ((j : Int) + 1) = ((j + 1 : Nat) : Int) := by unfold wrap64; omega
  have hrd : Pr.rd_T24 l (j : Int) = l[j] := rd24_at (List.getElem?_eq_getElem hjl)
  refine ⟨max k1 k2 + 1, ⟨l[j], id, kids⟩ :: rest, ?_, by simp [m2], fun i hi => ?_, fun Lg0 => ?_⟩
  ·simp only [Pr.glush_number.l0]
   rw [if_pos (by omega), if_pos (by omega), if_pos (by omega), hrd, num_mono k1 (max k1 k2) _ _ _ _ _ _ e1 (Nat.le_max_left _ _), Option.bind_some]
   simp only []
   rw [if_pos (by omega), hw]
   have e2' := num0_mono k2 (max k1 k2) _ _ _ _ _ _ _ _ _ _ _ e2 (Nat.le_max_right _ _)
   have hx : (⟨⟨l[j].f0, l[j].f1, l[j].f2, l[j].f3, l[j].f4⟩, id, kids⟩ : Pr.S63) = ⟨l[j], id, kids⟩ := by cases l[j]; rfl
   rw [hx, e2']
   simp only [List.append_assoc, List.singleton_append, Int.add_assoc, Int.natCast_add]
  ·cases i with
   | zero => exact InR.mono r1 (by omega) (by omega)
   | succ i =>
    have := r2 i (by simpa using hi)
    exact InR.mono (show InR _ _ (Pr.rd_T63 rest (i : Int)) from this) (by omega) (by omega)
  ·obtain ⟨Lg1, a1, b1⟩ := g1 Lg0
   obtain ⟨Lg2, a2, b2⟩ := g2 Lg1
   refine ⟨Lg2, fun i hi => ?_, fun i hi => ?_⟩
   ·rw [a2 i (by omega), a1 i (by omega)]
   ·cases i with
    | zero => exact Lab.agree (a := id) (b := id + szE l[j]) (fun i h3 h4 => a2 i (by omega)) b1 r1
    | succ i => exact b2 i (by simpa using hi)
theorem num_ok : ∀ (n : Nat) (e : Pr.S24), szE e ≤ n → NumOk e
 | 0, e, h => by have := szE_pos e; omega
 | n + 1, e, h => by
  intro id h0 h1
  have hs := szE_eq e
  have hlen : ∀ l : List Pr.S24, l.length ≤ szL l := fun l => by
   induction l with
   | nil => simp [szL]
   | cons x l ih => simp only [szL, List.length_cons]; have := szE_pos x; omega
  have hl4 := hlen e.f4
  obtain ⟨k, rest, e1, m1, r1, g1⟩ := num_loop e.f4 (by omega) e.f0 e.f1 e.f2 e.f3 e.f4 id (fun y hy => num_ok n y (by have := szL_mem hy; omega)) e.f4.length 0 (id + 1) [] (by omega) rfl (by omega) (by omega) (by omega) (by rw [List.drop_zero]; omega)
  rw [List.drop_zero] at e1 m1 r1 g1
  have hw : wrap64 (id + 1) = id + 1 := by unfold wrap64; omega
  refine ⟨k + 1, rest, ?_, InR.mk _ (by show id ≤ id; omega) (by show id < _; omega) (fun i hi => InR.mono (r1 i hi) (by omega) (by omega)), fun Lg0 => ?_⟩
  ·simp only [Pr.glush_number.f]
   rw [hw]
   have e1' : Pr.glush_number.l0 k (id + 1) e.f4 (e.f4.length : Int) 0 e.f0 e.f1 e.f2 e.f3 e.f4 id [] = _ := e1
   rw [e1', List.nil_append, hs]
   simp only [Int.add_assoc, Int.natCast_add, Int.natCast_one]
  ·obtain ⟨Lg1, a1, b1⟩ := g1 Lg0
   refine ⟨fun i => if i = id then LangE e else Lg1 i, fun i hi => ?_, Lab.mk _ h0 (by show id < _; omega) (fun v => by show (if id = id then LangE e else Lg1 id) v ↔ _; rw [if_pos rfl]) m1 (fun i hi => Lab.agree (a := id + 1) (b := id + 1 + szL e.f4) (fun i h3 h4 => if_neg (by omega)) (b1 i hi) (r1 i hi))⟩
   show (if i = id then LangE e else Lg1 i) = Lg0 i
   rw [if_neg (by omega)]
   exact a1 i (by omega)
theorem all_from (Lg : Int → List Int → Prop) (W0 : World) (gm bm : Nat) (ws : List Int) (Aw : Option Addr) (cw : Nat) (henv : Env W0 gm bm ws Aw cw) {x : Pr.S63} (h : Lab Lg x) : Wf x.f0 → FromOk Lg W0 gm bm ws x := by
 induction h with
 | mk x h0 h1 h2 h3 h4 ih =>
  intro hwf
  have hkwf : (x.f0.f0 = 3 ∨ x.f0.f0 = 4 ∨ x.f0.f0 = 5) → ∀ i : Nat, i < x.f2.length → Wf (Pr.rd_T63 x.f2 i).f0 := fun hk i hi => by
   have hm := List.mem_of_getElem? (kid_rd h3 hi)
   cases hwf with
   | mk _ _ b => exact b hk _ hm
  have h5 : x.f0.f0 = 5 → x.f2.length = 1 ∧ 0 ≤ x.f0.f2 ∧ x.f0.f2 ≤ 1000 ∧ (x.f0.f3 = -1 ∨ x.f0.f2 ≤ x.f0.f3) := fun hk => by
   cases hwf with
   | mk _ a _ =>
    obtain ⟨a1, a2, a3, a4, _⟩ := a hk
    exact ⟨by rw [← a1, ← h3, List.length_map], a2, a3, a4⟩
  refine from_calls Lg W0 gm bm ws Aw cw x henv (.mk x h0 h1 h2 h3 h4) hwf (fun hk i hi => ih i hi (hkwf (hk.elim .inl (fun h => .inr (.inl h))) i hi)) (fun hk => ?_)
  obtain ⟨a1, a2, a3, a4⟩ := h5 hk
  exact again_calls Lg W0 gm bm ws Aw cw x henv a1 a2 a3 a4 (on_calls Lg W0 gm bm ws Aw cw _ henv (ih 0 (by omega) (hkwf (.inr (.inr hk)) 0 (by omega))))
end Go.Proofs.YthocjdlcopmhiaaDoor.G
namespace Go.Proofs.YthocjdlcopmhiaaDoor.G
open Go.RowKit Go.Proofs.YthocjdlcopmhiaaDoorW.PrintWords Go.Proofs.YthocjdlcopmhiaaDoorW.PrintLast Go.Proofs.YthocjdlcopmhiaaDoorW.PrintMore
attribute [local go_sem] max2_int min2_int max_two min_two max_three min_three max_four min_four
set_option linter.unusedVariables false
set_option linter.unusedSimpArgs false
theorem budget_mono (k j : Nat) (y0 y1 y2 y3 : Int) (y4 : List Pr.S24) (y5 y6 : Int) {r} (h : Pr.rubriclaw9_budget.f k y0 y1 y2 y3 y4 y5 y6 = some r) (hkj : k ≤ j) : Pr.rubriclaw9_budget.f j y0 y1 y2 y3 y4 y5 y6 = some r :=
 at_rounds (g := fun k => Pr.rubriclaw9_budget.f k y0 y1 y2 y3 y4 y5 y6) (fun k => Pr.rubriclaw9_budget.mono y0 y1 y2 y3 y4 y5 y6 k) hkj h
theorem budget0_mono (k j : Nat) (y0 y1 y2 y3 y4 y5 y6 : Int) (y7 : List Pr.S24) {r} (h : Pr.rubriclaw9_budget.l0 k y0 y1 y2 y3 y4 y5 y6 y7 = some r) (hkj : k ≤ j) : Pr.rubriclaw9_budget.l0 j y0 y1 y2 y3 y4 y5 y6 y7 = some r :=
 at_rounds (g := fun k => Pr.rubriclaw9_budget.l0 k y0 y1 y2 y3 y4 y5 y6 y7) (fun k => (Pr.rubriclaw9_budget.mono_l k).2.2 y0 y1 y2 y3 y4 y5 y6 y7) hkj h
def BudOk (e : Pr.S24) : Prop := ∀ deep left : Int, deep ≤ 1000 → left ≤ 1000 → -1000 ≤ deep → -1000 ≤ left → ∃ k v, Pr.rubriclaw9_budget.f k e.f0 e.f1 e.f2 e.f3 e.f4 deep left = some v ∧ (0 < left → v < left) ∧ (left ≤ 0 → v = 0) ∧ 0 ≤ v
theorem bud_loop (e : Pr.S24) (hy : ∀ y ∈ e.f4, BudOk y) (deep : Int) (hd : deep ≤ 1000) (hd2 : -900 ≤ deep) : ∀ (m : Nat) (left : Int) (i : Nat), left ≤ (m : Int) → left ≤ 1000 → 0 ≤ left → (i : Int) + left ≤ 2000 → ∃ k v, Pr.rubriclaw9_budget.l0 k deep left (i : Int) e.f0 e.f1 e.f2 e.f3 e.f4 = some v ∧ v ≤ left ∧ 0 ≤ v
 | 0, left, i, hm, _, h0, _ => by
  refine ⟨1, left, ?_, Int.le_refl _, h0⟩
  simp only [Pr.rubriclaw9_budget.l0]
  split
  ·rw [if_neg (by omega)]
  ·rfl
 | m + 1, left, i, hm, h1, h0, hi => by
  by_cases hlt : (i : Int) < (e.f4.length : Int)
  ·by_cases hl : left > 0
   ·have hil : i < e.f4.length := by omega
    have hrd : Pr.rd_T24 e.f4 (i : Int) = e.f4[i] := rd24_at (List.getElem?_eq_getElem hil)
    have hwd : wrap64 (deep - 1) = deep - 1 := by unfold wrap64; omega
    have hwi : wrap64 ((i : Int) + 1) = ((i + 1 : Nat) : Int) := by unfold wrap64; omega
    obtain ⟨k1, v1, e1, e2, _, e4⟩ := hy e.f4[i] (List.getElem_mem hil) (deep - 1) left (by omega) h1 (by omega) (by omega)
    have e2' := e2 hl
    obtain ⟨k2, v2, f1, f2, f3⟩ := bud_loop e hy deep hd hd2 m v1 (i + 1) (by omega) (by omega) e4 (by omega)
    refine ⟨max k1 k2 + 1, v2, ?_, by omega, f3⟩
    simp only [Pr.rubriclaw9_budget.l0]
    rw [if_pos hlt, if_pos hl, if_pos (by omega), hrd, hwd, budget_mono k1 _ _ _ _ _ _ _ _ e1 (Nat.le_max_left _ _), Option.bind_some, hwi]
    exact budget0_mono k2 _ _ _ _ _ _ _ _ _ f1 (Nat.le_max_right _ _)
   ·refine ⟨1, left, ?_, Int.le_refl _, h0⟩
    simp only [Pr.rubriclaw9_budget.l0]
    rw [if_pos hlt, if_neg hl]
  ·refine ⟨1, left, ?_, Int.le_refl _, h0⟩
   simp only [Pr.rubriclaw9_budget.l0]
   rw [if_neg hlt]
theorem bud_ok : ∀ (n : Nat) (e : Pr.S24), szE e ≤ n → BudOk e
 | 0, e, h => by have := szE_pos e; omega
 | n + 1, e, h => by
  intro deep left h1 h2 h3 h4
  have hs := szE_eq e
  by_cases hl : left ≤ 0
  ·refine ⟨2, 0, ?_, fun h => by omega, fun _ => rfl, by omega⟩
   simp only [Pr.rubriclaw9_budget.f]
   rw [if_pos hl]
   simp [Pr.rubriclaw9_budget.j0]
  ·by_cases hd : deep ≤ 0
   ·refine ⟨2, 0, ?_, fun h => by omega, fun _ => rfl, by omega⟩
    simp only [Pr.rubriclaw9_budget.f]
    rw [if_neg hl, decide_eq_true hd]
    simp [Pr.rubriclaw9_budget.j0]
   ·have hw : wrap64 (left - 1) = left - 1 := by unfold wrap64; omega
    obtain ⟨k, v, e1, e2, e3⟩ := bud_loop e (fun y hy => bud_ok n y (by have := szL_mem hy; omega)) deep h1 (by omega) 1000 (left - 1) 0 (by omega) (by omega) (by omega) (by omega)
    refine ⟨k + 1 + 1, v, ?_, fun _ => by omega, fun h => by omega, e3⟩
    simp only [Pr.rubriclaw9_budget.f]
    rw [if_neg hl, decide_eq_false hd]
    simp only [Pr.rubriclaw9_budget.j0, Bool.false_eq_true, if_false]
    rw [hw]
    exact e1
theorem few_total (e : Pr.S24) : ∃ k b, Pr.rubriclaw9_Few.f k e.f0 e.f1 e.f2 e.f3 e.f4 = some b := by
 obtain ⟨k, v, h, _⟩ := bud_ok _ e (Nat.le_refl _) 300 400 (by omega) (by omega) (by omega) (by omega)
 exact ⟨k, _, by unfold Pr.rubriclaw9_Few.f; rw [h, Option.bind_some]⟩
theorem wrong_total (k : Nat) (x : Pr.S24) : ∃ b, Pr.glush_wrong.f (k + 1) x.f0 x.f1 x.f2 x.f3 x.f4 = some b := by
 have hj : ∀ (a : Int) (c : Bool) (x0 x1 x2 x3 : Int) (l : List Pr.S24), ∃ b, Pr.glush_wrong.j0 (k + 1) a c x0 x1 x2 x3 l = some b := fun a c x0 x1 x2 x3 l => by
  simp only [Pr.glush_wrong.j0]
  repeat' split
  all_goals exact ⟨_, rfl⟩
 unfold Pr.glush_wrong.f
 repeat' split
 all_goals exact hj _ _ _ _ _ _ _
def WalkT (f : Pr.S24 → Int → Bool → Cw → Option Cw) (e : Pr.S24) : Prop := ∀ (d : Int) (c : Bool) (x : Cw), 0 ≤ x.n → x.n ≤ 4096 → 0 ≤ d → d ≤ 201 → ∃ y, f e d c x = some y ∧ 0 ≤ y.n ∧ (y.many = true ∨ y.n ≤ 4096)
theorem kidsC_total {f : Pr.S24 → Int → Bool → Cw → Option Cw} : ∀ (l : List Pr.S24), (∀ e ∈ l, WalkT f e) → ∀ (d : Int) (c : Bool) (x : Cw), 0 ≤ x.n → (x.many = true ∨ x.n ≤ 4096) → 0 ≤ d → d ≤ 201 → ∃ y, kidsC f l d c x = some y ∧ 0 ≤ y.n ∧ (y.many = true ∨ y.n ≤ 4096)
 | [], _, d, c, x, h0, h1, _, _ => ⟨x, rfl, h0, h1⟩
 | e :: l, hf, d, c, x, h0, h1, h2, h3 => by
  unfold kidsC
  by_cases hm : x.many = true
  ·rw [if_pos hm]; exact ⟨x, rfl, h0, h1⟩
  ·rw [if_neg hm]
   obtain ⟨y, e1, e2, e3⟩ := hf e List.mem_cons_self d c x h0 (h1.elim (fun h => (hm h).elim) id) h2 h3
   rw [e1, Option.bind_some]
   exact kidsC_total l (fun z hz => hf z (List.mem_cons_of_mem _ hz)) d c y e2 e3 h2 h3
theorem walkC_total : ∀ (k : Nat) (e : Pr.S24), szE e < k → WalkT (walkC k) e
 | 0, e, h => by omega
 | k + 1, e, h => by
  intro d c x h0 h1 h2 h3
  have hs := szE_eq e
  unfold walkC
  rw [if_pos ⟨h0, h1, h2, h3⟩]
  by_cases hb : 4096 < x.n + 1 ∨ 200 < d
  ·rw [if_pos hb]
   exact ⟨_, rfl, by show 0 ≤ x.n + 1; omega, .inl rfl⟩
  ·rw [if_neg hb]
   obtain ⟨k', rfl⟩ : ∃ q, k = q + 1 := ⟨k - 1, by omega⟩
   obtain ⟨b, hbb⟩ : ∃ b, (if x.bad = true then some true else if c = true then Pr.glush_wrong.f (k' + 1) e.f0 e.f1 e.f2 e.f3 e.f4 else some false) = some b := by
    split
    ·exact ⟨_, rfl⟩
    ·split
     ·exact wrong_total k' e
     ·exact ⟨_, rfl⟩
   rw [hbb, Option.bind_some]
   exact kidsC_total e.f4 (fun y hy => walkC_total (k' + 1) y (by have := szL_mem hy; omega)) _ _ _ (by show 0 ≤ x.n + 1; omega) (.inr (by show x.n + 1 ≤ 4096; omega)) (by omega) (by omega)
theorem check_total (e : Pr.S24) : ∃ k r, glush_Check.f k e.f0 e.f1 e.f2 e.f3 e.f4 = some r := by
 have hw : WalkT (walkC (szE e + 1)) e := walkC_total (szE e + 1) e (Nat.lt_succ_self _)
 have h1 : (0 : Int) ≤ (⟨0, false, false⟩ : Cw).n := Int.le_refl 0
 have h2 : (⟨0, false, false⟩ : Cw).n ≤ (4096 : Int) := by decide
 obtain ⟨y, h, _⟩ := hw 1 true ⟨0, false, false⟩ h1 h2 (by decide) (by decide)
 have hx : (⟨e.f0, e.f1, e.f2, e.f3, e.f4⟩ : Pr.S24) = e := by cases e; rfl
 refine ⟨szE e + 1, (if y.many = true then 3 else if y.bad = true then 1 else 0), ?_⟩
 unfold glush_Check.f
 rw [hx, h]
 rfl
end Go.Proofs.YthocjdlcopmhiaaDoor.G
namespace Go.Proofs.YthocjdlcopmhiaaDoor.G
open Go.RowKit Go.Proofs.YthocjdlcopmhiaaDoorW.PrintWords Go.Proofs.YthocjdlcopmhiaaDoorW.PrintLast Go.Proofs.YthocjdlcopmhiaaDoorW.PrintMore
attribute [local go_sem] max2_int min2_int max_two min_two max_three min_three max_four min_four
set_option linter.unusedVariables false
set_option linter.unusedSimpArgs false
open GP
theorem Frag.iff {sym : Nat → Int} {fol fol' : Nat → Nat → Prop} {P P' : Nat → Prop} {n n' : Bool} {f f' l l' : Nat → Prop} {L L' : List Int → Prop} (h : Frag sym fol P n f l L) (hP : ∀ p, P' p ↔ P p) (hn : n' = n) (hf : ∀ p, f' p ↔ f p) (hl : ∀ p, l' p ↔ l p) (hL : ∀ w, L' w ↔ L w) (ho : ∀ p q, P p → (fol' p q ↔ fol p q)) : Frag sym fol' P' n' f' l' L' := by
 have h2 := h.stay (fol' := fol') (sym' := sym) ho (fun _ _ => rfl)
 subst hn
 have e1 : P' = P := funext fun p => propext (hP p)
 have e2 : f' = f := funext fun p => propext (hf p)
 have e3 : l' = l := funext fun p => propext (hl p)
 have e4 : L' = L := funext fun p => propext (hL p)
 rw [e1, e2, e3, e4]
 exact h2
def folR (n : Int) (rows : List (List Int)) (i p : Nat) : Prop := Mem (rows.getD i (freshF n)) p
def symL (syms : List Int) (i : Nat) : Int := syms.getD i 0
abbrev FragPt (n : Int) (syms : List Int) (rows : List (List Int)) (P : Nat → Prop) (x : Pt) (L : List Int → Prop) : Prop := Frag (symL syms) (folR n rows) P x.1 (Mem x.2.1) (Mem x.2.2) L
theorem frag_fresh (n : Int) (syms : List Int) (rows : List (List Int)) (b : Bool) : FragPt n syms rows (fun _ => False) (fresh0 n b) (fun w => b = true ∧ w = []) :=
 Frag.iff (frag_none (symL syms) (folR n rows) b) (fun _ => Iff.rfl) rfl (fun p => ⟨fun h => fresh_mem n p h, fun h => h.elim⟩) (fun p => ⟨fun h => fresh_mem n p h, fun h => h.elim⟩) (fun _ => Iff.rfl) (fun _ _ h => h.elim)
theorem fresh_pt (n : Int) (R : Nat) (b : Bool) : PtOk n R (fresh0 n b) := ⟨fresh_ok n R, fresh_ok n R⟩
section
variable {n : Int} {k : Nat} {syms : List Int} {rows : List (List Int)}
theorem seqPt_frag (hn : n ≤ 512) (hk : 4096 ≤ k) {x y : Pt} {P Q : Nat → Prop} {L M : List Int → Prop} (h : RowsOk n rows) (hx : PtOk n rows.length x) (hy : PtOk n rows.length y) (fx : FragPt n syms rows P x L) (fy : FragPt n syms rows Q y M) (hd : ∀ p, P p → ¬ Q p) :
  ∃ o, seqPt k rows x y = some o ∧ o.2.length = rows.length ∧ RowsOk n o.2 ∧ PtOk n rows.length o.1 ∧ o.1.1 = (x.1 && y.1) ∧ FragPt n syms o.2 (fun p => P p ∨ Q p) o.1 (Cat L M) ∧ ∀ i p, ¬ P i → (folR n o.2 i p ↔ folR n rows i p) := by
 obtain ⟨o, e1, e2, e3, e4, e5, e6, e7, e8⟩ := seqPt_ok k n hn hk h hx hy
 refine ⟨o, e1, e2, e3, e4, e5, ?_, fun i p hi => ?_⟩
 ·refine Frag.iff (frag_seq fx fy hd (fol' := folR n o.2) (fun p q => e6 p q)) (fun _ => Iff.rfl) e5 (fun p => e7 p) (fun p => e8 p) (fun _ => Iff.rfl) (fun _ _ _ => Iff.rfl)
 ·show Mem _ p ↔ Mem _ p
  rw [e6 i p]
  exact ⟨fun h => h.elim id (fun h => (hi (fx.lst i h.1)).elim), .inl⟩
def catL (L : List Int → Prop) : List (List Int → Prop) → List Int → Prop
 | [] => L
 | M :: l => catL (Cat L M) l
def unionP (P : Nat → Prop) : List (Nat → Prop) → Nat → Prop
 | [] => P
 | Q :: l => unionP (fun p => P p ∨ Q p) l
theorem unionP_iff : ∀ (l : List (Nat → Prop)) (P : Nat → Prop) (p : Nat), unionP P l p ↔ P p ∨ ∃ Q ∈ l, Q p
 | [], P, p => by simp [unionP]
 | Q :: l, P, p => by
  simp only [unionP]
  rw [unionP_iff l]
  simp only [List.mem_cons, exists_eq_or_imp]
  constructor
  ·rintro ((h | h) | h); exact .inl h; exact .inr (.inl h); exact .inr (.inr h)
  ·rintro (h | h | h); exact .inl (.inl h); exact .inl (.inr h); exact .inr h
structure PtL where
 x : Pt
 Q : Nat → Prop
 M : List Int → Prop
theorem rowPts_frag (hn : n ≤ 512) (hk : 4096 ≤ k) : ∀ (l : List PtL) (x : Pt) (P : Nat → Prop) (L : List Int → Prop) (rows : List (List Int)), RowsOk n rows → PtOk n rows.length x → FragPt n syms rows P x L → (∀ y ∈ l, PtOk n rows.length y.x ∧ FragPt n syms rows y.Q y.x y.M ∧ ∀ p, P p → ¬ y.Q p) → l.Pairwise (fun a b => ∀ p, a.Q p → ¬ b.Q p) →
  ∃ o, rowPts k (l.map (·.x)) x rows = some o ∧ o.2.length = rows.length ∧ RowsOk n o.2 ∧ PtOk n rows.length o.1 ∧ FragPt n syms o.2 (unionP P (l.map (·.Q))) o.1 (catL L (l.map (·.M))) ∧ ∀ i p, ¬ unionP P (l.map (·.Q)) i → (folR n o.2 i p ↔ folR n rows i p)
 | [], x, P, L, rows, hr, hx, fx, _, _ => ⟨(x, rows), rfl, rfl, hr, hx, fx, fun _ _ _ => Iff.rfl⟩
 | y :: l, x, P, L, rows, hr, hx, fx, hy, hp => by
  obtain ⟨hy1, hy2, hy3⟩ := hy y List.mem_cons_self
  obtain ⟨hp1, hp2⟩ := List.pairwise_cons.1 hp
  obtain ⟨o, e1, e2, e3, e4, e5, e6, e7⟩ := seqPt_frag (k := k) hn hk hr hx hy1 fx hy2 hy3
  obtain ⟨o2, f1, f2, f3, f4, f5, f6⟩ := rowPts_frag hn hk l o.1 (fun p => P p ∨ y.Q p) (Cat L y.M) o.2 e3 (by rw [e2]; exact e4) e6 (fun z hz => by
   obtain ⟨z1, z2, z3⟩ := hy z (List.mem_cons_of_mem _ hz)
   refine ⟨by rw [e2]; exact z1, Frag.iff z2 (fun _ => Iff.rfl) rfl (fun _ => Iff.rfl) (fun _ => Iff.rfl) (fun _ => Iff.rfl) (fun p q hq => e7 p q (fun h => z3 p h hq)), fun p h => h.elim (fun h => z3 p h) (fun h => hp1 z hz p h)⟩) hp2
  refine ⟨o2, ?_, by rw [f2, e2], f3, by rw [← e2]; exact f4, f5, fun i p hi => ?_⟩
  ·simp only [List.map_cons, rowPts]
   rw [e1, Option.bind_some]
   exact f1
  ·rw [f6 i p hi]
   refine e7 i p (fun h => hi ?_)
   simp only [List.map_cons, unionP]
   rw [unionP_iff]
   exact .inl (.inl h)
def tailL (T : List Int → Prop) : List (List Int → Prop) → List Int → Prop
 | [] => T
 | M :: l => tailL (Opt (Cat M T)) l
theorem tailPts_frag (hn : n ≤ 512) (hk : 4096 ≤ k) : ∀ (l : List PtL) (x : Pt) (P : Nat → Prop) (T : List Int → Prop) (rows : List (List Int)), RowsOk n rows → PtOk n rows.length x → FragPt n syms rows P x T → (∀ y ∈ l, PtOk n rows.length y.x ∧ FragPt n syms rows y.Q y.x y.M ∧ ∀ p, P p → ¬ y.Q p) → l.Pairwise (fun a b => ∀ p, a.Q p → ¬ b.Q p) →
  ∃ o, tailPts k (l.map (·.x)) x rows = some o ∧ o.2.length = rows.length ∧ RowsOk n o.2 ∧ PtOk n rows.length o.1 ∧ FragPt n syms o.2 (unionP P (l.map (·.Q))) o.1 (tailL T (l.map (·.M))) ∧ ∀ i p, ¬ unionP P (l.map (·.Q)) i → (folR n o.2 i p ↔ folR n rows i p)
 | [], x, P, T, rows, hr, hx, fx, _, _ => ⟨(x, rows), rfl, rfl, hr, hx, fx, fun _ _ _ => Iff.rfl⟩
 | y :: l, x, P, T, rows, hr, hx, fx, hy, hp => by
  obtain ⟨hy1, hy2, hy3⟩ := hy y List.mem_cons_self
  obtain ⟨hp1, hp2⟩ := List.pairwise_cons.1 hp
  obtain ⟨o, e1, e2, e3, e4, e5, e6, e7⟩ := seqPt_frag (k := k) hn hk hr hy1 hx hy2 fx (fun p h1 h2 => hy3 p h2 h1)
  have e6' : FragPt n syms o.2 (fun p => P p ∨ y.Q p) (true, o.1.2.1, o.1.2.2) (Opt (Cat y.M T)) := Frag.iff (frag_opt e6) (fun p => Or.comm) rfl (fun _ => Iff.rfl) (fun _ => Iff.rfl) (fun _ => Iff.rfl) (fun _ _ _ => Iff.rfl)
  obtain ⟨o2, f1, f2, f3, f4, f5, f6⟩ := tailPts_frag hn hk l (true, o.1.2.1, o.1.2.2) (fun p => P p ∨ y.Q p) (Opt (Cat y.M T)) o.2 e3 (by rw [e2]; exact ⟨e4.f, e4.l⟩) e6' (fun z hz => by
   obtain ⟨z1, z2, z3⟩ := hy z (List.mem_cons_of_mem _ hz)
   refine ⟨by rw [e2]; exact z1, Frag.iff z2 (fun _ => Iff.rfl) rfl (fun _ => Iff.rfl) (fun _ => Iff.rfl) (fun _ => Iff.rfl) (fun p q hq => e7 p q (fun h => hp1 z hz p h hq)), fun p h => h.elim (fun h => z3 p h) (fun h => hp1 z hz p h)⟩) hp2
  refine ⟨o2, ?_, by rw [f2, e2], f3, by rw [← e2]; exact f4, f5, fun i p hi => ?_⟩
  ·simp only [List.map_cons, tailPts]
   rw [e1, Option.bind_some]
   exact f1
  ·rw [f6 i p hi]
   refine e7 i p (fun h => hi ?_)
   simp only [List.map_cons, unionP]
   rw [unionP_iff]
   exact .inl (.inr h)
end
end Go.Proofs.YthocjdlcopmhiaaDoor.G
namespace Go.Proofs.YthocjdlcopmhiaaDoor.G
open Go.RowKit Go.Proofs.YthocjdlcopmhiaaDoorW.PrintWords Go.Proofs.YthocjdlcopmhiaaDoorW.PrintLast Go.Proofs.YthocjdlcopmhiaaDoorW.PrintMore
attribute [local go_sem] max2_int min2_int max_two min_two max_three min_three max_four min_four
set_option linter.unusedVariables false
set_option linter.unusedSimpArgs false
open GP
theorem shl_one (j : Nat) (h : j < 64) : shl .u64 1 (j : Int) = ((2 ^ j : Nat) : Int) := by
 unfold shl
 have h1 : min (j : Int).toNat IntKind.u64.bits = j := by
  rw [Int.toNat_natCast]
  have : IntKind.u64.bits = 64 := rfl
  omega
 have h2 : 2 ^ j < 2 ^ 64 := Nat.pow_lt_pow_right (by decide) h
 have h3 : ((2 : Int) ^ j) = ((2 ^ j : Nat) : Int) := by simp
 rw [h1, IntKind.wrap_u64, h3]
 generalize 2 ^ j = c at h2 ⊢
 omega
theorem or_zero (c : Nat) (h : c < 18446744073709551616) : bits .or .u64 0 (c : Int) = (c : Int) := by
 rw [bits_or_int 0 _ (by omega) (by omega), Int.toNat_natCast]
 simp
theorem add_ok (n : Int) (R i : Nat) (hn0 : 0 ≤ n) (hn : n ≤ 512) (hi : (i : Int) < n) (hR : i < R) : ∃ f, Pr.glush_set_add.f (freshF n) (i : Int) = some f ∧ SetOk n R f ∧ ∀ p, Mem f p ↔ p = i := by
 have hlen : (freshF n).length = nw n := by simp [freshF]
 have hiw : i / 64 < nw n := by unfold nw; omega
 have e1 : wrap64 (Int.tdiv (i : Int) 64) = ((i / 64 : Nat) : Int) := by
  have : Int.tdiv (i : Int) 64 = ((i / 64 : Nat) : Int) := rfl
  rw [this]; unfold wrap64; omega
 have e2 : Int.tmod (i : Int) 64 = ((i % 64 : Nat) : Int) := rfl
 have e3 : rd (freshF n) ((i / 64 : Nat) : Int) = 0 := by
  unfold rd freshF
  rw [Int.toNat_natCast, List.getD_eq_getElem?_getD, List.getElem?_replicate, if_pos hiw]
  rfl
 have hp : 2 ^ (i % 64) < 2 ^ 64 := Nat.pow_lt_pow_right (by decide) (by omega)
 have e5 := shl_one (i % 64) (by omega)
 have hb : ∀ p, (2 ^ (i % 64)).testBit p = decide (i % 64 = p) := fun p => Nat.testBit_two_pow
 generalize 2 ^ (i % 64) = c at hp e5 hb
 have e4 := or_zero c hp
 have hmem : ∀ p, Mem ((freshF n).set (i / 64) (c : Int)) p ↔ p = i := fun p => by
  unfold Mem wd
  rw [set_at (by rw [hlen]; exact hiw)]
  by_cases h : p / 64 = i / 64
  ·rw [if_pos h, Int.toNat_natCast, hb]
   simp only [decide_eq_true_eq]
   omega
  ·rw [if_neg h]
   have : ((freshF n).getD (p / 64) 0).toNat = 0 := by
    unfold freshF
    rw [List.getD_eq_getElem?_getD]
    by_cases hx : p / 64 < nw n
    ·rw [List.getElem?_replicate, if_pos hx]; rfl
    ·rw [List.getElem?_replicate, if_neg hx]; rfl
   rw [this, Nat.zero_testBit]
   constructor
   ·intro h; cases h
   ·intro h2; exact (h (by rw [h2])).elim
 refine ⟨(freshF n).set (i / 64) (c : Int), ?_, ⟨by rw [List.length_set, hlen], (fresh_ok n R).ok.set (by omega), fun p h => by rw [(hmem p).1 h]; exact hR⟩, hmem⟩
 unfold Pr.glush_set_add.f
 rw [e1, e2, if_pos (by omega), if_pos (by rw [hlen]; omega), if_pos (by omega), Int.toNat_natCast, e3, e5, e4]
def tms (lo hi : Int) : Nat := if hi = -1 then (max lo 1).toNat else hi.toNat
mutual
def cntE : Pr.S24 → Nat
 | ⟨f0, _, f2, f3, l⟩ => if f0 = 2 then 1 else if f0 = 3 then cntL l else if f0 = 4 then cntL l else if f0 = 5 then cntL l * tms f2 f3 else 0
def cntL : List Pr.S24 → Nat
 | [] => 0
 | x :: l => cntE x + cntL l
end
theorem cntE_eq (x : Pr.S24) : cntE x = if x.f0 = 2 then 1 else if x.f0 = 3 then cntL x.f4 else if x.f0 = 4 then cntL x.f4 else if x.f0 = 5 then cntL x.f4 * tms x.f2 x.f3 else 0 := by cases x; simp only [cntE]
structure PartRes (n : Int) (e : Pr.S24) (syms : List Int) (rows : List (List Int)) (r : PR) : Prop where
 s : ∃ new, r.syms = syms ++ new
 len : r.rows.length = r.syms.length
 cnt : r.syms.length = syms.length + cntE e
 rk : RowsOk n r.rows
 pt : PtOk n r.rows.length (r.null, r.fst, r.lst)
 fr : FragPt n r.syms r.rows (fun p => syms.length ≤ p ∧ p < syms.length + cntE e) (r.null, r.fst, r.lst) (LangE e)
 old : ∀ i, i < syms.length → ∀ p, folR n r.rows i p ↔ folR n rows i p
def PfOk (n : Int) (pf : PFn) (y : Pr.S24) : Prop := ∀ (syms : List Int) (rows : List (List Int)), rows.length = syms.length → RowsOk n rows → ((syms.length + cntE y : Nat) : Int) ≤ n → ∃ r, pf y syms rows = some r ∧ PartRes n y syms rows r
theorem symL_app (s t : List Int) (p : Nat) (h : p < s.length) : symL (s ++ t) p = symL s p := by
 unfold symL
 rw [List.getD_eq_getElem?_getD, List.getD_eq_getElem?_getD, List.getElem?_append_left h]
theorem FragPt.stay {n : Int} {syms syms' : List Int} {rows rows' : List (List Int)} {P : Nat → Prop} {x : Pt} {L : List Int → Prop} (h : FragPt n syms rows P x L) (hs : ∀ p, P p → symL syms' p = symL syms p) (hf : ∀ p q, P p → (folR n rows' p q ↔ folR n rows p q)) : FragPt n syms' rows' P x L := Frag.stay h hf hs
theorem PtOk.mono {n : Int} {R R' : Nat} {x : Pt} (h : PtOk n R x) (hR : R ≤ R') : PtOk n R' x := ⟨h.f.mono hR, h.l.mono hR⟩
structure ListRes (n : Int) (n0 c : Nat) (syms : List Int) (rows : List (List Int)) (L : List Int → Prop) (r : PR) : Prop where
 s : ∃ new, r.syms = syms ++ new
 len : r.rows.length = r.syms.length
 cnt : r.syms.length = syms.length + c
 rk : RowsOk n r.rows
 pt : PtOk n r.rows.length (r.null, r.fst, r.lst)
 fr : FragPt n r.syms r.rows (fun p => n0 ≤ p ∧ p < r.syms.length) (r.null, r.fst, r.lst) L
 old : ∀ i, i < n0 → ∀ p, folR n r.rows i p ↔ folR n rows i p
section
variable {n : Int} {k : Nat}
theorem seqKids_ok (hn : n ≤ 512) (hk : 4096 ≤ k) {pf : PFn} : ∀ (l : List Pr.S24) (out : Pt) (syms : List Int) (rows : List (List Int)) (n0 : Nat) (L : List Int → Prop), (∀ y ∈ l, PfOk n pf y) → rows.length = syms.length → RowsOk n rows → PtOk n rows.length out → n0 ≤ syms.length → FragPt n syms rows (fun p => n0 ≤ p ∧ p < syms.length) out L → ((syms.length + cntL l : Nat) : Int) ≤ n →
  ∃ r, seqKids k pf l out syms rows = some r ∧ ListRes n n0 (cntL l) syms rows (Cat L (LangS l)) r
 | [], out, syms, rows, n0, L, _, hl, hr, ho, h0, fo, hc => by
  refine ⟨⟨out.1, out.2.1, out.2.2, syms, rows⟩, rfl, ⟨[], by simp⟩, hl, by simp [cntL], hr, ho, ?_, fun _ _ _ => Iff.rfl⟩
  exact Frag.iff fo (fun _ => Iff.rfl) rfl (fun _ => Iff.rfl) (fun _ => Iff.rfl) (fun w => by simp only [LangS]; exact Cat.epsR w) (fun _ _ _ => Iff.rfl)
 | y :: l, out, syms, rows, n0, L, hp, hl, hr, ho, h0, fo, hc => by
  simp only [cntL] at hc ⊢
  obtain ⟨r1, e1, R1⟩ := hp y List.mem_cons_self syms rows hl hr (by omega)
  obtain ⟨new1, hs1⟩ := R1.s
  have hlen1 := R1.len; have hcnt1 := R1.cnt
  have fo1 : FragPt n r1.syms r1.rows (fun p => n0 ≤ p ∧ p < syms.length) out L := FragPt.stay fo (fun p hp => by rw [hs1]; exact symL_app _ _ _ hp.2) (fun p q hp => R1.old p hp.2 q)
  obtain ⟨o, e2, e3, e4, e5, e6, e7, e8⟩ := seqPt_frag (k := k) hn hk R1.rk (PtOk.mono ho (by omega)) R1.pt fo1 R1.fr (fun p h1 h2 => by omega)
  have fo2 : FragPt n r1.syms o.2 (fun p => n0 ≤ p ∧ p < r1.syms.length) o.1 (Cat L (LangE y)) := Frag.iff e7 (fun p => by rw [hcnt1]; omega) rfl (fun _ => Iff.rfl) (fun _ => Iff.rfl) (fun _ => Iff.rfl) (fun _ _ _ => Iff.rfl)
  obtain ⟨r2, f1, R2⟩ := seqKids_ok hn hk l o.1 r1.syms o.2 n0 (Cat L (LangE y)) (fun z hz => hp z (List.mem_cons_of_mem _ hz)) (by omega) e4 (by rw [e3]; exact e5) (by omega) fo2 (by omega)
  obtain ⟨new2, hs2⟩ := R2.s
  refine ⟨r2, ?_, ⟨new1 ++ new2, by rw [hs2, hs1, List.append_assoc]⟩, R2.len, by rw [R2.cnt, hcnt1]; omega, R2.rk, R2.pt, ?_, fun i hi p => ?_⟩
  ·unfold seqKids
   rw [e1, Option.bind_some, e2, Option.bind_some]
   exact f1
  ·exact Frag.iff R2.fr (fun _ => Iff.rfl) rfl (fun _ => Iff.rfl) (fun _ => Iff.rfl) (fun w => by simp only [LangS]; exact (Cat.assoc w).symm) (fun _ _ _ => Iff.rfl)
  ·rw [R2.old i hi p, e8 i p (fun h => by omega), R1.old i (by omega) p]
theorem altKids_ok (hn : n ≤ 512) (hk : 4096 ≤ k) {pf : PFn} : ∀ (l : List Pr.S24) (out : Pt) (syms : List Int) (rows : List (List Int)) (n0 : Nat) (L : List Int → Prop), (∀ y ∈ l, PfOk n pf y) → rows.length = syms.length → RowsOk n rows → PtOk n rows.length out → n0 ≤ syms.length → FragPt n syms rows (fun p => n0 ≤ p ∧ p < syms.length) out L → ((syms.length + cntL l : Nat) : Int) ≤ n →
  ∃ r, altKids k pf l out syms rows = some r ∧ ListRes n n0 (cntL l) syms rows (fun w => L w ∨ LangA l w) r
 | [], out, syms, rows, n0, L, _, hl, hr, ho, h0, fo, hc => by
  refine ⟨⟨out.1, out.2.1, out.2.2, syms, rows⟩, rfl, ⟨[], by simp⟩, hl, by simp [cntL], hr, ho, ?_, fun _ _ _ => Iff.rfl⟩
  exact Frag.iff fo (fun _ => Iff.rfl) rfl (fun _ => Iff.rfl) (fun _ => Iff.rfl) (fun w => by simp only [LangA]; simp) (fun _ _ _ => Iff.rfl)
 | y :: l, out, syms, rows, n0, L, hp, hl, hr, ho, h0, fo, hc => by
  simp only [cntL] at hc ⊢
  obtain ⟨r1, e1, R1⟩ := hp y List.mem_cons_self syms rows hl hr (by omega)
  obtain ⟨new1, hs1⟩ := R1.s
  have hlen1 := R1.len; have hcnt1 := R1.cnt
  have fo1 : FragPt n r1.syms r1.rows (fun p => n0 ≤ p ∧ p < syms.length) out L := FragPt.stay fo (fun p hp => by rw [hs1]; exact symL_app _ _ _ hp.2) (fun p q hp => R1.old p hp.2 q)
  have ho1 := PtOk.mono ho (R' := r1.rows.length) (by omega)
  obtain ⟨f, f1, f2, f3⟩ := join_ok k n r1.rows.length hn hk ho1.f R1.pt.f
  obtain ⟨g, g1, g2, g3⟩ := join_ok k n r1.rows.length hn hk ho1.l R1.pt.l
  have fo2 : FragPt n r1.syms r1.rows (fun p => n0 ≤ p ∧ p < r1.syms.length) (out.1 || r1.null, f, g) (fun w => L w ∨ LangE y w) := Frag.iff (frag_alt fo1 R1.fr (fun p h1 h2 => by omega)) (fun p => by rw [hcnt1]; omega) rfl f3 g3 (fun _ => Iff.rfl) (fun _ _ _ => Iff.rfl)
  obtain ⟨r2, h1, R2⟩ := altKids_ok hn hk l (out.1 || r1.null, f, g) r1.syms r1.rows n0 (fun w => L w ∨ LangE y w) (fun z hz => hp z (List.mem_cons_of_mem _ hz)) hlen1 R1.rk ⟨f2, g2⟩ (by omega) fo2 (by omega)
  obtain ⟨new2, hs2⟩ := R2.s
  refine ⟨r2, ?_, ⟨new1 ++ new2, by rw [hs2, hs1, List.append_assoc]⟩, R2.len, by rw [R2.cnt, hcnt1]; omega, R2.rk, R2.pt, ?_, fun i hi p => ?_⟩
  ·unfold altKids
   rw [e1, Option.bind_some, f1, Option.bind_some, g1, Option.bind_some]
   exact h1
  ·exact Frag.iff R2.fr (fun _ => Iff.rfl) rfl (fun _ => Iff.rfl) (fun _ => Iff.rfl) (fun w => by simp only [LangA]; exact or_assoc.symm) (fun _ _ _ => Iff.rfl)
  ·rw [R2.old i hi p, R1.old i (by omega) p]
end
end Go.Proofs.YthocjdlcopmhiaaDoor.G
