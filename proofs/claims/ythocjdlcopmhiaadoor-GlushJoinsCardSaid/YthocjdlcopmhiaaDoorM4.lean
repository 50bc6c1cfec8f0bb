import Derived.Test.YthocjdlcopmhiaaDoorProg
import Derived.Below
import Derived.Deep.Draws
import Derived.Deep.AppendLies
import Derived.Maps.AppendAt
import Derived.OwnWalk
import Derived.Laws.BytesArg
import Derived.Laws.MakeOwn
import Derived.Laws.OwnMore
import Derived.Deep.OwnRows
import Derived.Tactics
import Derived.Lib.ConvBytes
import Derived.Laws.Slices
import Derived.WalkKit
import Derived.KernelRfl
import Derived.RowKit3
import Derived.Deep.LoopGhost
import Derived.Deep.QuietTactic
import Derived.BigQuiet
import Derived.WideLaws
import Derived.Deep.DeepCutAuto
import Derived.Deep.CutBlock
import Derived.Deep.RegionHeld3
import Derived.Laws.Rows
import Derived.Lib.AppendStr
import Derived.ArgAppend
import Derived.Laws.IdiomCopy
import Derived.OrdersHeld
import Derived.Laws.BitsLemmas
import Derived.RowKit
import Derived.Test.YthocjdlcopmhiaaDoorWWords
import Derived.Test.YthocjdlcopmhiaaDoorWLast
import Derived.Test.YthocjdlcopmhiaaDoorWTab
import Derived.Test.YthocjdlcopmhiaaDoorWQPut
import Derived.Test.YthocjdlcopmhiaaDoorWApart
import Derived.Test.YthocjdlcopmhiaaDoorWArr
import Derived.Test.YthocjdlcopmhiaaDoorWZeros
import Derived.Test.YthocjdlcopmhiaaDoorWFoot
import Derived.Test.YthocjdlcopmhiaaDoorWKept
import Derived.Test.YthocjdlcopmhiaaDoorWShare
import Derived.Test.YthocjdlcopmhiaaDoorWN
import Derived.Test.YthocjdlcopmhiaaDoorWRepsOne
import Derived.Test.YthocjdlcopmhiaaDoorWGuard
import Derived.Test.YthocjdlcopmhiaaDoorWNEv
import Derived.Test.YthocjdlcopmhiaaDoorWMore
import Derived.Test.YthocjdlcopmhiaaDoorWEqStruct
import Derived.Test.YthocjdlcopmhiaaDoorWFour
import Derived.Test.YthocjdlcopmhiaaDoorWFootNe
import Derived.Test.YthocjdlcopmhiaaDoorWAt
import Derived.Test.YthocjdlcopmhiaaDoorWInv
import Derived.Test.YthocjdlcopmhiaaDoorWInvWords
import Derived.Test.YthocjdlcopmhiaaDoorM3
import Derived.Test.YthocjdlcopmhiaaDoorPrx2
namespace Go.Proofs.YthocjdlcopmhiaaDoor.G
open Go.RowKit Go.Proofs.YthocjdlcopmhiaaDoorW.PrintWords Go.Proofs.YthocjdlcopmhiaaDoorW.PrintLast Go.Proofs.YthocjdlcopmhiaaDoorW.PrintMore
attribute [local go_sem] max2_int min2_int max_two min_two max_three min_three max_four min_four
set_option linter.unusedVariables false
set_option linter.unusedSimpArgs false
def RP5.T : Bool × List (List Nat × List Nat) := (true, [([], []), ([], []), ([1], [1]), ([2], [2]), ([3], [3]), ([], []), ([5], [5]), ([6], [6]), ([4, 7], [4, 7]), ([0, 0, 1, 2, 3, 4, 5, 6, 7, 8], [0]), ([9, 0, 1, 2, 3, 4, 5, 6, 7, 8], [9]), ([10, 8, 8, 0, 1, 2, 3, 4, 5, 6, 7, 8], [8, 10])])
def RP5.B : List Nat := [0, 0, 2, 6, 14, 0, 32, 96, 254, 511, 1023, 2047]
theorem RP5.tab : rtab .any (opsOf Tryd.f19 5) = RP5.T := by kernel_rfl
theorem RP5.bits : waitsOk RP5.T.2 RP5.B = true := by kernel_rfl
def RP6.T : Bool × List (List Nat × List Nat) := (true, [([], []), ([], []), ([1], [1]), ([2], [2]), ([3], [3]), ([], []), ([5], [5]), ([6], [6]), ([4, 7, 6], [4, 7]), ([0, 0, 1, 2, 3, 4, 5, 6, 7, 8], [0]), ([9, 0, 1, 2, 3, 4, 5, 6, 7, 8], [9]), ([10, 8, 8, 0, 1, 2, 3, 4, 5, 6, 7, 8], [8, 10])])
def RP6.B : List Nat := [0, 0, 2, 6, 14, 0, 32, 96, 254, 511, 1023, 2047]
theorem RP6.tab : rtab .any (opsOf Tryd.f19 6) = RP6.T := by kernel_rfl
theorem RP6.bits : waitsOk RP6.T.2 RP6.B = true := by kernel_rfl
set_option maxHeartbeats 8000000 in
set_option maxRecDepth 100000 in
theorem part_sym (n : Int) (hn0 : 0 ≤ n) (hn1 : n ≤ 512) (w0 w : World) (g : Nat) (Z : Nat → Prop) (syms : List Int) (rows : List (List Int)) (f1 f2 f3 : Int) (f4 : List Pr.S24) (A : Option Addr) (c : Nat) (r : PR)
  (hb : Bd w0 w g Z n syms rows) (hB : Below w0.heap.size w0 w) (h : symF n f1 syms rows = some r) :
  Calls Tryd.prog 19 #[.pointer (some ⟨g, 0, none⟩), EV ⟨2, f1, f2, f3, f4⟩ A c] w (PartPost w0 w g Z n r) := by
 unfold symF at h
 by_cases hl1 : syms.length < 4096
 case neg => rw [if_neg hl1] at h; cases h
 by_cases hl2 : rows.length < 4096
 case neg => rw [if_pos hl1, if_neg hl2] at h; cases h
 rw [if_pos hl1, if_pos hl2] at h
 obtain ⟨f, hf, hr⟩ := Option.bind_eq_some_iff.1 h
 obtain rfl := Option.some.inj hr
 clear h hr
 have hu54 := Tryd.underlying54; have hu24 := Tryd.underlying24; have hu50 := Tryd.underlying50
 unfold EV
 dsimp only
 have HBd := Lib.hid hb; have HB := Lib.hid hB; have HF := Lib.hid hf; have HL1 := Lib.hid hl1; have HL2 := Lib.hid hl2
 clear hb hB hf hl1 hl2
 go_enter Tryd.func19, Tryd.ntmps19
 go_wp2_with (fail)
 have HB2 := below_alloc (below_alloc (Below.refl w.heap.size w) (.cells #[.int .i64 2, .int .i64 f1, .int .i64 f2, .int .i64 f3, .slice A f4.length c] 24)) (.cells #[.bool false, .slice none 0 0, .slice none 0 0] 54)
 have KX : ((w.alloc (.cells #[.int .i64 2, .int .i64 f1, .int .i64 f2, .int .i64 f3, .slice A f4.length c] 24)).alloc (.cells #[.bool false, .slice none 0 0, .slice none 0 0] 54)).heap[w.heap.size]? = some (.cells #[.int .i64 2, .int .i64 f1, .int .i64 f2, .int .i64 f3, .slice A f4.length c] 24 (0, 0)) := blk_alloc (blk_new w _) _
 have KR : ((w.alloc (.cells #[.int .i64 2, .int .i64 f1, .int .i64 f2, .int .i64 f3, .slice A f4.length c] 24)).alloc (.cells #[.bool false, .slice none 0 0, .slice none 0 0] 54)).heap[w.heap.size + 1]? = some (.cells #[.bool false, .slice none 0 0, .slice none 0 0] 54 (0, 0)) := by
  have := blk_new (w.alloc (.cells #[.int .i64 2, .int .i64 f1, .int .i64 f2, .int .i64 f3, .slice A f4.length c] 24)) (.cells #[.bool false, .slice none 0 0, .slice none 0 0] 54); simpa using this
 generalize (w.alloc (.cells #[.int .i64 2, .int .i64 f1, .int .i64 f2, .int .i64 f3, .slice A f4.length c] 24)).alloc (.cells #[.bool false, .slice none 0 0, .slice none 0 0] 54) = wA at HB2 KX KR ⊢
 have hBA := HBd.out.below HB2
 refine (none_calls g n false wA (by obtain ⟨⟨v1, v2, hbk, _⟩, _⟩ := hBA; exact (blk_cell hbk 0).trans rfl) hn0 hn1).mono ?_
 rintro e w1 ⟨v5, v6, rfl, h5, h6, hb1⟩
 obtain ⟨A5, c5, rfl⟩ := Kd.R_slice h5
 obtain ⟨A6, c6, rfl⟩ := Kd.R_slice h6
 have HBd1 := Lib.hid (hBA.below hb1)
 have HB1 := Lib.hid (below_step (below_step HB.out HB2) hb1)
 have HBW := Lib.hid (below_step HB2 hb1)
 have KX1 := Lib.hid (blk_below KX hb1); have KR1 := Lib.hid (blk_below KR hb1)
 have H5 := Lib.hid (Kd.R_lower h5 HB2.size); have H6 := Lib.hid (Kd.R_lower h6 HB2.size)
 have HNZ := Lib.hid HBd.out.new
 have HB0 := HB
 clear KX KR hBA hb1 HB2 h5 h6 HB HBd
 go_upto_region 4 with (fail)
 have hbp := below_alloc (Below.refl w1.heap.size w1) (.cells #[.bool false, .slice A5 (freshF n).length c5, .slice A6 (freshF n).length c6] 54)
 have KP : (w1.alloc (.cells #[.bool false, .slice A5 (freshF n).length c5, .slice A6 (freshF n).length c6] 54)).heap[w1.heap.size]? = some (.cells #[.bool false, .slice A5 (freshF n).length c5, .slice A6 (freshF n).length c6] 54 (0, 0)) := blk_new w1 _
 have HBd2 := Lib.hid (HBd1.out.below hbp); have HB2 := Lib.hid (below_step HB1.out hbp); have HBW2 := Lib.hid (below_step HBW.out hbp); have KX2 := Lib.hid (blk_below KX1.out hbp); have KR2 := Lib.hid (blk_below KR1.out hbp); have H52 := Lib.hid (Kd.R_below H5.out hbp); have H62 := Lib.hid (Kd.R_below H6.out hbp)
 have HGP := Lib.hid HBW.out.size; have HBS := Lib.hid HB0.out.size
 clear hbp H5 H6 KX1 KR1 HBd1 HB1 HBW
 generalize w1.alloc (.cells #[.bool false, .slice A5 (freshF n).length c5, .slice A6 (freshF n).length c6] 54) = w2 at KP HBd2 HB2 HBW2 KX2 KR2 H52 H62 ⊢
 generalize w1.heap.size = gp at KP HGP ⊢
 have KP2 := Lib.hid KP; clear KP
 obtain ⟨v1, v2, hbk, ⟨As, cs, rfl⟩, hRs, hpush⟩ := HBd2.out.push_sym f1
 have hc1 : w2.cell? ⟨g, 1, none⟩ = some (.slice As syms.length cs) := (blk_cell hbk 1).trans rfl
 have hcx : w2.cell? ⟨w.heap.size, 1, none⟩ = some (.int .i64 f1) := (blk_cell KX2.out 1).trans rfl
 have HRS := Lib.hid hRs; have HPU := Lib.hid hpush; have HG2 := Lib.hid (HBd2.out.2.2 g HBd2.out.2.1)
 have HNZ2 := Lib.hid HBd2.out.new
 clear hbk hRs hpush
 go_wp2_with (fail)
 refine start_ (n := 12) (S := fun w' => w'.cell? ⟨g, 1, none⟩ = some (.slice As syms.length cs) ∧ w'.cell? ⟨w.heap.size, 1, none⟩ = some (.int .i64 f1)) (ds := [8, 11]) (S.um 12 0) (by kernel_rfl) rfl rfl ⟨hc1, hcx⟩ (fun hHeld => ?_); refine with_tabW RP5.tab RP5.bits (fun HT_ HW_ => ?_)
 clear hc1 hcx
 refine S.p 12 0 25 1 HT_.out rfl rfl ?_
 refine S.p 12 1 26 3 HT_.out rfl rfl ?_
 refine S.p 12 2 27 7 HT_.out rfl rfl ?_
 refine S.p 12 3 28 15 HT_.out rfl rfl ?_
 refine S.p 12 5 30 47 HT_.out rfl rfl ?_
 refine S.t 12 4 29 63 HT_.out HW_.out rfl rfl hHeld ?_
 refine S.t 12 6 31 127 HT_.out HW_.out rfl rfl hHeld ?_
 refine S.o 12 7 32 255 HT_.out rfl rfl (fun K hK => ?_)
 refine value_ (w1 := ?_) (v := ?_) (by rfl) rfl ?_ ?_
 rotate_left 2
 ·go_simp
  constructor
  ·rfl
  ·rfl
 refine hK.out _ _ ⟨cell_below hHeld.1 (below_alloc (Below.refl _ _) _), cell_below hHeld.2 (below_alloc (Below.refl _ _) _)⟩ (fun hHeld => ?_)
 clear hK K
 refine S.w 32 ?_
 refine last_ (i := 8) (N := some 33) (S.um 12 511) rfl rfl (one_of HT_.out (by kernel_rfl)) (by decide) (fun K hK => ?_)
 refine Kd.R_append_step (Kd.int .i64) (w0 := w0) (W := w2.drew) w0.heap.size (by rfl) (.tmp 29) (.tmp 32) 25 3 (.int .i64 0) 8 rfl Tryd.underlying25 (by kernel_rfl) rfl (by decide) (by omega) (.slice As syms.length cs) syms f1 [.int .i64 f1] (fun k => Z k ∨ w2.heap.size ≤ k) (fun _ => False) rfl rfl rfl (fun _ hk => hk.elim) (fun k hk => .inr hk) (Kd.R_drew HRS.out) (below_drew1 HB2.out) (HB2.out.size) (by have := HL1.out; omega) ?_
 intro v7 w3 ho hb hg hat
 obtain ⟨hs, hfz, hbd, hbl, hkk⟩ := HPU.out v7 w3 ho hb (grown_undrew hg)
 refine hK.out _ _ ?_
 clear hK K
 refine S.w 33 ?_
 refine S.p 12 9 34 1023 HT_.out rfl rfl ?_
 refine S.p 12 10 35 2047 HT_.out rfl rfl ?_
 refine last_ (i := 11) (N := none) (S.um 12 4095) rfl rfl (one_of HT_.out (by kernel_rfl)) (by decide) (fun K hK => ?_)
 obtain ⟨A7, c7, rfl⟩ := Kd.R_slice ho
 have e7 : (syms ++ [f1]).length = syms.length + 1 := by simp
 rw [e7] at hbd hbl hkk
 refine skip_ (w1 := ?_) (by rfl) rfl ?_ ?_; rotate_left
 ·go_simp; rfl
 refine hK.out _ _ ?_; clear hK K hHeld
 refine done_ (done_of HT_.out (by kernel_rfl)) ?_; clear HT_ HW_
 have hsz4 : (w3.setCell ⟨g, 1, none⟩ (.slice A7 (syms.length + 1) c7)).heap.size = w3.heap.size := by simp [World.setCell]
 rw [← hsz4] at hbd
 generalize w3.setCell ⟨g, 1, none⟩ (.slice A7 (syms.length + 1) c7) = w4 at hbd hbl hkk hsz4 ⊢
 have HZ4 : ∀ k, w.heap.size ≤ k → k < w2.heap.size → ¬ ((Z k ∨ w2.heap.size ≤ k) ∧ k < w4.heap.size) := fun k h1 h2 h3 => h3.1.elim (HNZ.out k h1) (fun h4 => by omega)
 have HZ4i : ∀ k, ((Z k ∨ w2.heap.size ≤ k) ∧ k < w4.heap.size) → Z k ∨ w.heap.size ≤ k := fun k h => h.1.elim .inl (fun h4 => .inr (Nat.le_trans HBW2.out.size h4))
 have HZI := Lib.hid HZ4i; have HZN := Lib.hid HZ4; clear HZ4 HZ4i hsz4
 have HBd4 := Lib.hid hbd; have HB4 := Lib.hid hbl; have HK4 := Lib.hid ((Kept.of_below HBW2.out Z).then_ hkk (fun _ h => .inl h))
 have KX4 := Lib.hid (blk_kept KX2.out hkk (HNZ.out _ (Nat.le_refl _))); have KR4 := Lib.hid (blk_kept KR2.out hkk (HNZ.out _ (Nat.le_succ _))); have KP4 := Lib.hid (blk_kept KP2.out hkk (HNZ.out _ HGP.out))
 have H54 := Lib.hid (Kd.R_mono (Kd.R_kept (Kd.R_bound H52.out) hkk (fun k h1 h2 => HNZ.out k h1.2.1 h2)) (ok' := fun k => (some k ≠ (Value.slice A6 (freshF n).length c6).ownBlock) ∧ k < w2.heap.size) (fun k h => ⟨h.1, h.2.2.1⟩)); have H64 := Lib.hid (Kd.R_mono (Kd.R_kept (Kd.R_bound H62.out) hkk (fun k h1 h2 => HNZ.out k h1.2.1 h2)) (ok' := fun k => (some k ≠ (Value.slice A5 (freshF n).length c5).ownBlock) ∧ k < w2.heap.size) (fun k h => ⟨h.1, h.2.2.1⟩))
 have HLX := Lib.hid (blk_lt KX2.out); have HLR := Lib.hid (blk_lt KR2.out); have HLP := Lib.hid (blk_lt KP2.out)
 have HSZ24 := Lib.hid hkk.1
 clear hbd hbl hkk e7 KX2 KR2 KP2 H52 H62 HBd2 HB2 HRS HPU ho hb hg hat hs hfz HNZ2
 clear HNZ
 generalize hZZ : (fun k => (Z k ∨ w2.heap.size ≤ k) ∧ k < w4.heap.size) = Z4 at HBd4
 have HZI' : Hid (∀ k, Z4 k → Z k ∨ w.heap.size ≤ k) := by subst hZZ; exact HZI
 have HZN' : Hid (∀ k, w.heap.size ≤ k → k < w2.heap.size → ¬ Z4 k) := by subst hZZ; exact HZN
 clear hZZ HZI HZN
 obtain ⟨v1', v2', hbk, ⟨Af, cf, rfl⟩, hown, hpush⟩ := HBd4.out.push_row (freshF n)
 have hc0 : w4.cell? ⟨g, 0, none⟩ = some (.int .i64 n) := (blk_cell hbk 0).trans rfl
 have hc2 : w4.cell? ⟨g, 2, none⟩ = some (.slice Af rows.length cf) := (blk_cell hbk 2).trans rfl
 have HOWN := Lib.hid hown; clear hown
 have HPU := Lib.hid hpush; have HC0 := Lib.hid hc0
 clear hpush hbk hc0
 go_wp2_with (fail)
 refine start_ (n := 12) (S := fun w' => w'.cell? ⟨g, 2, none⟩ = some (.slice Af rows.length cf)) (ds := [8, 11]) (S.um 12 0) (by kernel_rfl) rfl rfl hc2 (fun hHeld => ?_); refine with_tabW RP6.tab RP6.bits (fun HT_ HW_ => ?_)
 clear hc2
 refine S.p 12 0 36 1 HT_.out rfl rfl ?_
 refine S.p 12 1 37 3 HT_.out rfl rfl ?_
 refine S.p 12 2 38 7 HT_.out rfl rfl ?_
 refine S.p 12 3 39 15 HT_.out rfl rfl ?_
 refine S.p 12 5 41 47 HT_.out rfl rfl ?_
 refine S.t 12 4 40 63 HT_.out HW_.out rfl rfl hHeld ?_
 refine S.o 12 6 42 127 HT_.out rfl rfl (fun K hK => ?_)
 refine S.g Tryd.func29 #[.pointer (some ⟨g, 0, none⟩)] rfl rfl ?_; (with_reducible refine (fresh_calls g n w4.drew (cell_below HC0.out (below_drew1 (Below.refl _ _))) hn0 hn1).mono ?_); rintro e w5 ⟨v8, rfl, hv8, hb5⟩; obtain ⟨A8, c8, rfl⟩ := Kd.R_slice hv8; refine ⟨_, rfl, ?_⟩
 have hbW : Below w4.heap.size w4 w5 := ⟨hb5.os, hb5.tape, hb5.output, hb5.size, hb5.block⟩
 obtain ⟨hS8, hR8, hpush⟩ := HPU.out w5 _ hbW hv8
 refine hK.out _ _ (cell_below hHeld hb5) (fun hHeld => ?_); clear hK K
 refine S.w 42 ?_
 refine S.o 12 7 43 255 HT_.out rfl rfl (fun K hK => ?_)
 refine value_ (w1 := ?_) (v := ?_) (by rfl) rfl ?_ ?_
 rotate_left 2
 ·go_simp
  constructor
  ·rfl
  ·rfl
 refine hK.out _ _ (cell_below hHeld (below_alloc (Below.refl _ _) _)) (fun hHeld => ?_)
 clear hK K
 refine S.w 43 ?_
 refine last_ (i := 8) (N := some 44) (S.um 12 511) rfl rfl (one_of HT_.out (by kernel_rfl)) (by decide) (fun K hK => ?_)
 refine Kd.S_append_step (Kd.slice 77 KU) (w0 := w0) (W := w5) w0.heap.size (by rfl) (.tmp 40) (.tmp 43) 48 52 (.slice none 0 0) 24 rfl Tryd.underlying48 (by kernel_rfl) rfl (by decide) (by omega) (.slice Af rows.length cf) rows (freshF n) [.slice A8 (freshF n).length c8] (fun k => Z4 k ∨ w4.heap.size ≤ k) (fun k => w4.heap.size ≤ k ∧ some k = (Value.slice A8 (freshF n).length c8).ownBlock) rfl rfl ⟨_, rfl, hR8⟩ ?hokp (fun k hk => .inr (Nat.le_trans hbW.size hk)) hS8 (below_step HB4.out hbW) (Nat.le_trans HB4.out.size hbW.size) (by have := HL2.out; omega) ?_
 case hokp => exact fun k hk => ⟨.inr hk.1, fun he => Nat.lt_irrefl k (Nat.lt_of_lt_of_le (HOWN.out k he) hk.1)⟩
 intro v7 w6 ho hb hg hat
 obtain ⟨hs, hfz, hbd, hbl, hkk⟩ := hpush v7 w6 ho hb hg
 refine hK.out _ _ ?_
 clear hK K
 refine S.w 44 ?_
 refine S.p 12 9 45 1023 HT_.out rfl rfl ?_
 refine S.p 12 10 46 2047 HT_.out rfl rfl ?_
 refine last_ (i := 11) (N := none) (S.um 12 4095) rfl rfl (one_of HT_.out (by kernel_rfl)) (by decide) (fun K hK => ?_)
 obtain ⟨A9, c9, rfl⟩ := Kd.S_slice ho
 have e9 : (rows ++ [freshF n]).length = rows.length + 1 := by simp
 rw [e9] at hbd hbl hkk
 refine skip_ (w1 := ?_) (by rfl) rfl ?_ ?_; rotate_left
 ·go_simp; rfl
 refine hK.out _ _ ?_; clear hK K hHeld
 refine done_ (done_of HT_.out (by kernel_rfl)) ?_; clear HT_ HW_
 have hsz7 : (w6.setCell ⟨g, 2, none⟩ (.slice A9 (rows.length + 1) c9)).heap.size = w6.heap.size := by simp [World.setCell]
 rw [← hsz7] at hbd
 generalize w6.setCell ⟨g, 2, none⟩ (.slice A9 (rows.length + 1) c9) = w7 at hbd hbl hkk hsz7 ⊢
 generalize hZZ : (fun k => (Z4 k ∨ w4.heap.size ≤ k) ∧ k < w7.heap.size) = Z7 at hbd
 have HZ7 : Hid (∀ k, w.heap.size ≤ k → k < w2.heap.size → ¬ Z7 k) := by subst hZZ; exact Lib.hid (fun k h1 h2 h3 => h3.1.elim (HZN'.out k h1 h2) (fun h4 => by have := HK4.out.1; have := blk_lt KP4.out; have := HSZ24.out; omega))
 have HZI7 : Hid (∀ k, Z7 k → Z k ∨ w.heap.size ≤ k) := by subst hZZ; exact Lib.hid (fun k h => h.1.elim (HZI'.out k) (fun h4 => .inr (Nat.le_trans HK4.out.1 h4)))
 clear hZZ hsz7
 have HK7 := Lib.hid (HK4.out.then_ hkk HZI'.out); have HBd7 := Lib.hid hbd; have HB7 := Lib.hid hbl
 have KX7 := Lib.hid (blk_kept KX4.out hkk (HZN'.out _ (Nat.le_refl _) HLX.out)); have KR7 := Lib.hid (blk_kept KR4.out hkk (HZN'.out _ (Nat.le_succ _) HLR.out)); have KP7 := Lib.hid (blk_kept KP4.out hkk (HZN'.out _ HGP.out HLP.out))
 have H57 := Lib.hid (Kd.R_mono (Kd.R_kept (Kd.R_bound H54.out) hkk (fun k h1 h2 => HZN'.out k h1.2.1 h1.1.2 h2)) (ok' := fun k => (some k ≠ (Value.slice A6 (freshF n).length c6).ownBlock) ∧ k < w2.heap.size) (fun k h => h.1)); have H67 := Lib.hid (Kd.R_mono (Kd.R_kept (Kd.R_bound H64.out) hkk (fun k h1 h2 => HZN'.out k h1.2.1 h1.1.2 h2)) (ok' := fun k => (some k ≠ (Value.slice A5 (freshF n).length c5).ownBlock) ∧ k < w2.heap.size) (fun k h => h.1))
 have HLR2 := HLR
 clear hbd hbl hkk e9 HBd4 HB4 HK4 KX4 KR4 KP4 H54 H64 HZI' HZN' hpush ho hb hg hat hs hfz hS8 hR8 hv8 hb5 hbW HPU HOWN HC0 HLX HLR HLP
 obtain ⟨p0, p1, p2, _, _, _⟩ := cells3 KP7.out
 go_wp2_with (fail)
 clear p0 p1 p2
 (with_reducible refine (Pr.glush_set_add.calls (fun q => some q = (Value.slice A5 (freshF n).length c5).ownBlock) (.slice A5 (freshF n).length c5) (freshF n) (syms.length : Int) f w0 w7 HB7.out (Kd.R_mono (Kd.R_tight rfl (Kd.R_lower H57.out HBS.out)) (fun _ h => h)) HF.out).mono ?_)
 rintro e w8 ⟨rfl, hr, hb, hk⟩
 have hown : ∀ q, some q = (Value.slice A5 (freshF n).length c5).ownBlock → w.heap.size ≤ q ∧ q < w2.heap.size ∧ ¬ some q = (Value.slice A6 (freshF n).length c6).ownBlock := fun q h => ⟨Kd.R_base H57.out q h.symm, H57.out.1 q h.symm |>.2, (H57.out.1 q h.symm).1⟩
 have KX8 := Lib.hid (blk_kept KX7.out hk (fun h => Kd.R_ne H57.out KX7.out (by decide) h)); have KR8 := Lib.hid (blk_kept KR7.out hk (fun h => Kd.R_ne H57.out KR7.out (by decide) h)); have KP8 := Lib.hid (blk_kept KP7.out hk (fun h => Kd.R_ne H57.out KP7.out (by decide) h))
 have HBd8 := Lib.hid (HBd7.out.kept hk (fun q h1 h2 => HZ7.out q (hown q h2).1 (hown q h2).2.1 h1)); have HB8 := Lib.hid hb; have HK8 := Lib.hid (HK7.out.then_ hk (fun q h => .inr (hown q h).1))
 have HR5 := Lib.hid (Kd.R_tight rfl hr); have HOW5 := Lib.hid (fun q h => (⟨(hown q h).1, (hown q h).2.1⟩ : w.heap.size ≤ q ∧ q < w2.heap.size)); have HLEN5 := Lib.hid (Kd.R_reads' hr).1
 have H68 := Lib.hid (Kd.R_kept (Kd.R_mono (Kd.R_tight rfl H67.out) (fun _ h => h) (ok' := fun q => some q = (Value.slice A6 (freshF n).length c6).ownBlock)) hk (fun q h1 h2 => (hown q h2).2.2 h1)); have H68b := Lib.hid H67.out.1
 clear hr hb hk hown KX7 KR7 KP7 HBd7 HB7 HK7 H57 H67
 replace H68 := Lib.hid (Kd.R_mono H68.out (ok' := fun k => (some k ≠ (Value.slice A5 (freshF n).length c5).ownBlock) ∧ k < w2.heap.size) (fun k h => H68b.out k h.symm)); clear H68b
 obtain ⟨p0, p1, p2, _, _, _⟩ := cells3 KP8.out
 go_wp2_with (fail)
 clear p0 p1 p2
 (with_reducible refine (Pr.glush_set_add.calls (fun q => some q = (Value.slice A6 (freshF n).length c6).ownBlock) (.slice A6 (freshF n).length c6) (freshF n) (syms.length : Int) f w0 w8 HB8.out (Kd.R_mono (Kd.R_tight rfl (Kd.R_lower H68.out HBS.out)) (fun _ h => h)) HF.out).mono ?_)
 rintro e w9 ⟨rfl, hr, hb, hk⟩
 have hown : ∀ q, some q = (Value.slice A6 (freshF n).length c6).ownBlock → w.heap.size ≤ q ∧ q < w2.heap.size ∧ ¬ some q = (Value.slice A5 (freshF n).length c5).ownBlock := fun q h => ⟨Kd.R_base H68.out q h.symm, H68.out.1 q h.symm |>.2, (H68.out.1 q h.symm).1⟩
 have KX9 := Lib.hid (blk_kept KX8.out hk (fun h => Kd.R_ne H68.out KX8.out (by decide) h)); have KR9 := Lib.hid (blk_kept KR8.out hk (fun h => Kd.R_ne H68.out KR8.out (by decide) h)); have KP9 := Lib.hid (blk_kept KP8.out hk (fun h => Kd.R_ne H68.out KP8.out (by decide) h))
 have HBd9 := Lib.hid (HBd8.out.kept hk (fun q h1 h2 => HZ7.out q (hown q h2).1 (hown q h2).2.1 h1)); have HB9 := Lib.hid hb; have HK9 := Lib.hid (HK8.out.then_ hk (fun q h => .inr (hown q h).1))
 have HR6 := Lib.hid (Kd.R_tight rfl hr); have HOW6 := Lib.hid (fun q h => (⟨(hown q h).1, (hown q h).2.1⟩ : w.heap.size ≤ q ∧ q < w2.heap.size)); have HLEN6 := Lib.hid (Kd.R_reads' hr).1
 have HR59 := Lib.hid (Kd.R_kept HR5.out hk (fun q h1 h2 => (hown q h2).2.2 h1))
 clear hr hb hk hown KX8 KR8 KP8 HBd8 HB8 HK8 H68 HR5
 obtain ⟨p0, p1, p2, _, _, _⟩ := cells3 KP9.out
 obtain ⟨r0, r1, r2, q0, q1, q2⟩ := cells3 KR9.out
 go_wp2_with (fail)
 refine bodyPost_ret (results_cell_row rfl _ _ (w.heap.size + 1) 54 #[.bool false, .slice A5 (freshF n).length c5, .slice A6 (freshF n).length c6] (0, 0) _ rfl (st3_blk KR9.out) Tryd.underlying54 rfl (by kernel_rfl)) rfl ?_
 have hs := st3_self (w := w9) (g := w.heap.size + 1) (.bool false) (.slice A5 (freshF n).length c5) (.slice A6 (freshF n).length c6)
 have e5 : (freshF n).length = f.length := HLEN5.out
 have V5 := Kd.R_kept (Kd.R_mono (Kd.R_types HR59.out KR9.out (by decide)) (ok' := fun k => (w.heap.size ≤ k ∧ k < w2.heap.size) ∧ k ≠ w.heap.size + 1) (fun k h => ⟨HOW5.out k h.1, h.2⟩)) hs (fun k h1 h2 => h1.2 h2)
 have V6 := Kd.R_kept (Kd.R_mono (Kd.R_types HR6.out KR9.out (by decide)) (ok' := fun k => (w.heap.size ≤ k ∧ k < w2.heap.size) ∧ k ≠ w.heap.size + 1) (fun k h => ⟨HOW6.out k h.1, h.2⟩)) hs (fun k h1 h2 => h1.2 h2)
 exact ⟨Z7, A5, c5, A6, c6, by rw [e5], R_len e5 (R_up2 V5 (fun k h => ⟨h.1.1, HZ7.out k h.1.1 h.1.2⟩)), R_len e5 (R_up2 V6 (fun k h => ⟨h.1.1, HZ7.out k h.1.1 h.1.2⟩)), HBd9.out.kept hs (fun q h1 h2 => HZ7.out q (h2 ▸ Nat.le_add_right _ 1) (h2 ▸ HLR2.out) h1), HZI7.out, st3_below HB9.out (Nat.le_trans HBS.out (Nat.le_add_right _ 1)) _ _ _, st3_kept HK9.out (.inr (Nat.le_add_right _ 1)) _ _ _⟩
end Go.Proofs.YthocjdlcopmhiaaDoor.G
namespace Go.Proofs.YthocjdlcopmhiaaDoor.G
open Go.RowKit Go.Proofs.YthocjdlcopmhiaaDoorW.PrintWords Go.Proofs.YthocjdlcopmhiaaDoorW.PrintLast Go.Proofs.YthocjdlcopmhiaaDoorW.PrintMore
attribute [local go_sem] max2_int min2_int max_two min_two max_three min_three max_four min_four
set_option linter.unusedVariables false
set_option linter.unusedSimpArgs false
def RP15.T : Bool × List (List Nat × List Nat) := (true, [([], []), ([], []), ([], []), ([], []), ([2, 3], [2, 3]), ([0, 1, 4, 4], [0, 1, 4]), ([5, 5, 0, 1, 2, 3, 4, 5], [5])])
def RP15.B : List Nat := [0, 0, 0, 0, 12, 31, 63]
theorem RP15.tab : rtab .any (opsOf Tryd.f19 15) = RP15.T := by kernel_rfl
theorem RP15.bits : waitsOk RP15.T.2 RP15.B = true := by kernel_rfl
theorem rd_eq (l : List Pr.S24) (x : Int) (h0 : 0 ≤ x) (h1 : x < l.length) : l.drop x.toNat = Pr.rd_T24 l x :: l.drop (x + 1).toNat := by
 have hx : x.toNat < l.length := by omega
 have e1 : (x + 1).toNat = x.toNat + 1 := by omega
 rw [e1, List.drop_eq_getElem_cons hx]
 unfold Pr.rd_T24
 rw [List.getD_eq_getElem?_getD, List.getElem?_eq_getElem hx]
 rfl
set_option maxHeartbeats 8000000 in
set_option maxRecDepth 100000 in
theorem part_seq (k : Nat) (n : Int) (hn0 : 0 ≤ n) (hn1 : n ≤ 512) (pf : PFn) (hpf : PartOk 19 n pf) (w0 w : World) (g : Nat) (Z : Nat → Prop) (syms : List Int) (rows : List (List Int)) (f1 f2 f3 : Int) (f4 : List Pr.S24) (A : Option Addr) (c : Nat) (r : PR)
  (hb : Bd w0 w g Z n syms rows) (htab : HTab w0) (hB : Below w0.heap.size w0 w) (hC : Kd.C Pr.k24 w0 A f4.length f4) (hc : f4.length ≤ c) (h : seqKids k pf f4 (fresh0 n true) syms rows = some r) :
  Calls Tryd.prog 19 #[.pointer (some ⟨g, 0, none⟩), EV ⟨3, f1, f2, f3, f4⟩ A c] w (PartPost w0 w g Z n r) := by
 have hu54 := Tryd.underlying54; have hu24 := Tryd.underlying24
 have hlen : f4.length ≤ 9223372036854775807 := hC.2.1
 unfold EV
 dsimp only
 have HBd := Lib.hid hb; have HB := Lib.hid hB; have HH := Lib.hid h; have HC := Lib.hid hC; have HT := Lib.hid htab; have HPF := Lib.hid hpf; have HLEN := Lib.hid hlen
 clear hb hB h hC htab hpf hlen hc
 go_enter Tryd.func19, Tryd.ntmps19
 go_wp2_with (fail)
 have HB2 := below_alloc (below_alloc (Below.refl w.heap.size w) (.cells #[.int .i64 3, .int .i64 f1, .int .i64 f2, .int .i64 f3, .slice A f4.length c] 24)) (.cells #[.bool false, .slice none 0 0, .slice none 0 0] 54)
 have KX : ((w.alloc (.cells #[.int .i64 3, .int .i64 f1, .int .i64 f2, .int .i64 f3, .slice A f4.length c] 24)).alloc (.cells #[.bool false, .slice none 0 0, .slice none 0 0] 54)).heap[w.heap.size]? = some (.cells #[.int .i64 3, .int .i64 f1, .int .i64 f2, .int .i64 f3, .slice A f4.length c] 24 (0, 0)) := blk_alloc (blk_new w _) _
 have KR : ((w.alloc (.cells #[.int .i64 3, .int .i64 f1, .int .i64 f2, .int .i64 f3, .slice A f4.length c] 24)).alloc (.cells #[.bool false, .slice none 0 0, .slice none 0 0] 54)).heap[w.heap.size + 1]? = some (.cells #[.bool false, .slice none 0 0, .slice none 0 0] 54 (0, 0)) := by
  have := blk_new (w.alloc (.cells #[.int .i64 3, .int .i64 f1, .int .i64 f2, .int .i64 f3, .slice A f4.length c] 24)) (.cells #[.bool false, .slice none 0 0, .slice none 0 0] 54); simpa using this
 generalize (w.alloc (.cells #[.int .i64 3, .int .i64 f1, .int .i64 f2, .int .i64 f3, .slice A f4.length c] 24)).alloc (.cells #[.bool false, .slice none 0 0, .slice none 0 0] 54) = wA at HB2 KX KR ⊢
 have hBA := HBd.out.below HB2
 refine (none_calls g n true wA (by obtain ⟨⟨v1, v2, hbk, _⟩, _⟩ := hBA; exact (blk_cell hbk 0).trans rfl) hn0 hn1).mono ?_
 rintro e w1 ⟨v5, v6, rfl, h5, h6, hb1⟩
 obtain ⟨A5, c5, rfl⟩ := Kd.R_slice h5
 obtain ⟨A6, c6, rfl⟩ := Kd.R_slice h6
 have HBd1 := Lib.hid (hBA.below hb1)
 have HB1 := Lib.hid (below_step (below_step HB.out HB2) hb1)
 have HBW := Lib.hid (below_step HB2 hb1)
 have KX1 := Lib.hid (blk_below KX hb1); have KR1 := Lib.hid (blk_below KR hb1)
 have HNZ := Lib.hid HBd.out.new
 have H5 := Lib.hid (Kd.R_mono (Kd.R_bound (Kd.R_lower h5 HB2.size)) (ok' := fun k => ¬ Z k) (fun k hk => HNZ.out k hk.2.1)); have H6 := Lib.hid (Kd.R_mono (Kd.R_bound (Kd.R_lower h6 HB2.size)) (ok' := fun k => ¬ Z k) (fun k hk => HNZ.out k hk.2.1))
 have HBS := Lib.hid HB.out.size
 clear KX KR hBA hb1 HB2 h5 h6 HB HBd
 go_upto_region 12 with (fail)
 have hbp := below_alloc (Below.refl w1.heap.size w1) (.cells #[.bool true, .slice A5 (freshF n).length c5, .slice A6 (freshF n).length c6] 54)
 have KP : (w1.alloc (.cells #[.bool true, .slice A5 (freshF n).length c5, .slice A6 (freshF n).length c6] 54)).heap[w1.heap.size]? = some (.cells #[.bool true, .slice A5 (freshF n).length c5, .slice A6 (freshF n).length c6] 54 (0, 0)) := blk_new w1 _
 have HBd2 := Lib.hid (HBd1.out.below hbp); have HB2 := Lib.hid (below_step HB1.out hbp); have HK2 := Lib.hid (Kept.of_below (below_step HBW.out hbp) Z); have KX2 := Lib.hid (blk_below KX1.out hbp); have KR2 := Lib.hid (blk_below KR1.out hbp); have H52 := Lib.hid (Kd.R_below H5.out hbp); have H62 := Lib.hid (Kd.R_below H6.out hbp)
 have HGP := Lib.hid HBW.out.size
 have HGP1 : Hid (¬ w.heap.size + 1 = w1.heap.size) := Lib.hid (fun h => Nat.lt_irrefl _ (h ▸ blk_lt KR1.out))
 clear hbp H5 H6 KX1 KR1 HBd1 HB1 HBW
 generalize w1.alloc (.cells #[.bool true, .slice A5 (freshF n).length c5, .slice A6 (freshF n).length c6] 54) = w2 at KP HBd2 HB2 HK2 KX2 KR2 H52 H62 ⊢
 generalize w1.heap.size = gp at KP HGP HGP1 ⊢
 have KP2 := Lib.hid KP; clear KP
 have HGP2 := Lib.hid (blk_lt KP2.out); have HGR2 := Lib.hid (blk_lt KR2.out); have HW2 := Lib.hid HK2.out.1
 have HGNE : Hid (¬ w.heap.size + 1 = gp) := Lib.hid HGP1.out
 have hx4 : w2.cell? ⟨w.heap.size, 4, none⟩ = some (.slice A f4.length c) := (blk_cell KX2.out 4).trans rfl
 go_wp2_with (fail)
 clear hx4
 go_loopg [63] f4.length (fun kq v63 w' => ∃ (x : Int) (Z' : Nat → Prop) (o : Pt) (sy : List Int) (rw_ : List (List Int)) (A5 : Option Addr) (c5 : Nat) (A6 : Option Addr) (c6 : Nat), v63 = .int .i64 x ∧ Hid (0 ≤ x ∧ x ≤ f4.length) ∧ Hid (kq = f4.length - x.toNat) ∧ Hid (seqKids k pf (f4.drop x.toNat) o sy rw_ = some r) ∧ Hid (Bd w0 w' g Z' n sy rw_) ∧ Hid (∀ k, Z' k → Z k ∨ w2.heap.size ≤ k) ∧ Hid (Below w0.heap.size w0 w') ∧ Hid (Kept w w' Z) ∧
  Hid (w'.heap[gp]? = some (.cells #[.bool o.1, .slice A5 o.2.1.length c5, .slice A6 o.2.2.length c6] 54 (0, 0))) ∧ Hid (w'.heap[w.heap.size + 1]? = some (.cells #[.bool false, .slice none 0 0, .slice none 0 0] 54 (0, 0))) ∧ Hid (w2.heap.size ≤ w'.heap.size) ∧
  Hid (Kd.R KU 77 w' w.heap.size (fun k => ¬ Z' k) (.slice A5 o.2.1.length c5) o.2.1) ∧ Hid (Kd.R KU 77 w' w.heap.size (fun k => ¬ Z' k) (.slice A6 o.2.2.length c6) o.2.2))
 case atStart => exact ⟨0, Z, fresh0 n true, syms, rows, A5, c5, A6, c6, rfl, Lib.hid ⟨Int.le_refl _, by omega⟩, Lib.hid rfl, HH, HBd2, Lib.hid (fun _ h => .inl h), HB2, HK2, KP2, KR2, Lib.hid (Nat.le_refl _), H52, H62⟩
 case round =>
  obtain ⟨x, Z', o, sy, rw_, B5, d5, B6, d6, rfl, HX, HQ, HM, HBdj, HZj, HBj, HKj, KPj, KRj, HSj, H5j, H6j⟩ := hrel
  by_cases hlt : x < f4.length
  ·have hm := HM.out
   rw [rd_eq f4 x HX.out.1 hlt] at hm
   unfold seqKids at hm
   obtain ⟨p, hp, hm⟩ := Option.bind_eq_some_iff.1 hm
   obtain ⟨o2, ho2, hm⟩ := Option.bind_eq_some_iff.1 hm
   obtain ⟨ad, A4, c4, eA, y0, y1, y2, y3, y4, hc4, hC4⟩ := Pr.at_T24 HC.out x HX.out.1 hlt
   subst eA
   have q0 := cell_below y0 HBj.out; have q1 := cell_below y1 HBj.out; have q2 := cell_below y2 HBj.out; have q3 := cell_below y3 HBj.out; have q4 := cell_below y4 HBj.out
   clear y0 y1 y2 y3 y4
   generalize Pr.rd_T24 f4 x = y at hp q0 q1 q2 q3 q4 hc4 hC4
   have HP := Lib.hid hp; have HO := Lib.hid ho2; have HRE := Lib.hid hm; have HC4 := Lib.hid hC4; have Hc4 := Lib.hid hc4; have HLT := Lib.hid hlt
   have b1 : decide (x < (f4.length : Int)) = true := decide_eq_true hlt
   have b2 : (0 ≤ x) = True := eq_true HX.out.1
   have b3 : (x < (f4.length : Int)) = True := eq_true hlt
   clear hp ho2 hm hC4 hc4 hlt HM
   go_upto_region 15 with (fail)
   clear q0 q1 q2 q3 q4
   have hby := below_alloc (Below.refl wr.heap.size wr) (.cells #[.int .i64 y.f0, .int .i64 y.f1, .int .i64 y.f2, .int .i64 y.f3, .slice A4 y.f4.length c4] 24)
   have KY : (wr.alloc (.cells #[.int .i64 y.f0, .int .i64 y.f1, .int .i64 y.f2, .int .i64 y.f3, .slice A4 y.f4.length c4] 24)).heap[wr.heap.size]? = some (.cells #[.int .i64 y.f0, .int .i64 y.f1, .int .i64 y.f2, .int .i64 y.f3, .slice A4 y.f4.length c4] 24 (0, 0)) := blk_new wr _
   have HBd3 := Lib.hid (HBdj.out.below hby); have HB3 := Lib.hid (below_step HBj.out hby); have HK3 := Lib.hid (HKj.out.below hby); have KP3 := Lib.hid (blk_below KPj.out hby); have KR3 := Lib.hid (blk_below KRj.out hby); have H53 := Lib.hid (Kd.R_below H5j.out hby); have H63 := Lib.hid (Kd.R_below H6j.out hby)
   have HS3 := Lib.hid (Nat.le_trans HSj.out hby.size); have HGY := Lib.hid HSj.out; have HNZ3 := Lib.hid (HBdj.out.new)
   clear hby HBdj HBj HKj KPj KRj H5j H6j HSj
   generalize wr.alloc (.cells #[.int .i64 y.f0, .int .i64 y.f1, .int .i64 y.f2, .int .i64 y.f3, .slice A4 y.f4.length c4] 24) = w3 at KY HBd3 HB3 HK3 KP3 KR3 H53 H63 HS3 ⊢
   generalize wr.heap.size = gy at KY HGY HNZ3 ⊢
   obtain ⟨p0, p1, p2, _, _, _⟩ := cells3 KP3.out
   have y0 : w3.cell? ⟨gy, 0, none⟩ = some (.int .i64 y.f0) := (blk_cell KY 0).trans rfl
   have y1 : w3.cell? ⟨gy, 1, none⟩ = some (.int .i64 y.f1) := (blk_cell KY 1).trans rfl
   have y2 : w3.cell? ⟨gy, 2, none⟩ = some (.int .i64 y.f2) := (blk_cell KY 2).trans rfl
   have y3 : w3.cell? ⟨gy, 3, none⟩ = some (.int .i64 y.f3) := (blk_cell KY 3).trans rfl
   have y4 : w3.cell? ⟨gy, 4, none⟩ = some (.slice A4 y.f4.length c4) := (blk_cell KY 4).trans rfl
   have KY3 := Lib.hid KY; clear KY
   refine start_ (n := 7) (S := fun w' => w'.cell? ⟨gp, 0, none⟩ = some (.bool o.1) ∧ w'.cell? ⟨gp, 1, none⟩ = some (.slice B5 o.2.1.length d5) ∧ w'.cell? ⟨gp, 2, none⟩ = some (.slice B6 o.2.2.length d6) ∧ w'.cell? ⟨gy, 0, none⟩ = some (.int .i64 y.f0) ∧ w'.cell? ⟨gy, 1, none⟩ = some (.int .i64 y.f1) ∧ w'.cell? ⟨gy, 2, none⟩ = some (.int .i64 y.f2) ∧ w'.cell? ⟨gy, 3, none⟩ = some (.int .i64 y.f3) ∧ w'.cell? ⟨gy, 4, none⟩ = some (.slice A4 y.f4.length c4)) (ds := [5, 6]) (S.um 7 0) (by kernel_rfl) rfl rfl ⟨p0, p1, p2, y0, y1, y2, y3, y4⟩ (fun hHeld => ?_); refine with_tabW RP15.tab RP15.bits (fun HT_ HW_ => ?_)
   clear p0 p1 p2 y0 y1 y2 y3 y4
   refine S.p 7 0 67 1 HT_.out rfl rfl ?_
   refine S.p 7 2 69 5 HT_.out rfl rfl ?_
   refine S.t 7 1 68 7 HT_.out HW_.out rfl rfl hHeld ?_
   refine S.t 7 3 70 15 HT_.out HW_.out rfl rfl hHeld ?_
   refine S.o 7 4 71 31 HT_.out rfl rfl (fun K hK => ?_)
   refine S.g Tryd.func19 #[.pointer (some ⟨g, 0, none⟩), EV y A4 c4] rfl rfl ?_; (with_reducible refine (HPF.out.call w0 w3.drew g Z' sy rw_ y A4 c4 p (HBd3.out.below (below_drew1 (Below.refl _ _))) HT.out (below_drew1 HB3.out) HC4.out Hc4.out HP.out).mono ?_); rintro e w4 ⟨Z4, A7, c7, A8, c8, rfl, h7, h8, hbd, hzi, hbb, hkk⟩; refine ⟨_, rfl, ?_⟩
   replace hkk : Kept w3 w4 Z' := hkk
   have HZ4 := Lib.hid (fun (q : Nat) (h1 : ¬ Z' q) (h2 : q < w3.heap.size) (h3 : Z4 q) => ((hzi q h3).elim h1 (fun h4 => Nat.lt_irrefl _ (Nat.lt_of_lt_of_le h2 h4)) : False))
   have HGPL := Lib.hid (blk_lt KP3.out); have HGRL := Lib.hid (blk_lt KR3.out)
   have HNP : Hid (¬ Z' gp) := Lib.hid (fun hz => (HZj.out gp hz).elim (HNZ.out gp HGP.out) (fun h => Nat.lt_irrefl _ (Nat.lt_of_lt_of_le HGP2.out h)))
   have HNR : Hid (¬ Z' (w.heap.size + 1)) := Lib.hid (fun hz => (HZj.out _ hz).elim (HNZ.out _ (Nat.le_add_right _ 1)) (fun h => Nat.lt_irrefl _ (Nat.lt_of_lt_of_le HGR2.out h)))
   have KP4 := Lib.hid (blk_kept KP3.out hkk HNP.out); have KR4 := Lib.hid (blk_kept KR3.out hkk HNR.out); have KY4 := Lib.hid (blk_kept KY3.out hkk (HNZ3.out _ (Nat.le_refl _)))
   have H54 := Lib.hid (Kd.R_mono (Kd.R_kept (Kd.R_bound H53.out) hkk (fun q h1 h2 => h1.1 h2)) (ok' := fun q => ¬ Z4 q) (fun q h => HZ4.out q h.1 h.2.2.1)); have H64 := Lib.hid (Kd.R_mono (Kd.R_kept (Kd.R_bound H63.out) hkk (fun q h1 h2 => h1.1 h2)) (ok' := fun q => ¬ Z4 q) (fun q h => HZ4.out q h.1 h.2.2.1))
   have HBd4 := Lib.hid hbd; have HB4 := Lib.hid hbb; have HS4 := Lib.hid (Nat.le_trans HS3.out hkk.1)
   have HZI4 : Hid (∀ q, Z4 q → Z q ∨ w2.heap.size ≤ q) := Lib.hid (fun q h => (hzi q h).elim (HZj.out q) (fun h4 => .inr (Nat.le_trans HS3.out h4)))
   have HK4 : Hid (Kept w w4 Z) := Lib.hid (HK3.out.then_ hkk (fun q h => (HZj.out q h).elim .inl (fun h4 => .inr (Nat.le_trans HW2.out h4))))
   have H74 := Lib.hid h7; have H84 := Lib.hid h8
   obtain ⟨s0, s1, s2, _, _, _⟩ := cells3 KP4.out
   have z0 : w4.cell? ⟨gy, 0, none⟩ = some (.int .i64 y.f0) := (blk_cell KY4.out 0).trans rfl
   have z1 : w4.cell? ⟨gy, 1, none⟩ = some (.int .i64 y.f1) := (blk_cell KY4.out 1).trans rfl
   have z2 : w4.cell? ⟨gy, 2, none⟩ = some (.int .i64 y.f2) := (blk_cell KY4.out 2).trans rfl
   have z3 : w4.cell? ⟨gy, 3, none⟩ = some (.int .i64 y.f3) := (blk_cell KY4.out 3).trans rfl
   have z4 : w4.cell? ⟨gy, 4, none⟩ = some (.slice A4 y.f4.length c4) := (blk_cell KY4.out 4).trans rfl
   clear hbd hzi hbb hkk h7 h8 KP3 KR3 KY3 H53 H63 HBd3 HB3 HK3 HS3
   refine hK.out _ _ ⟨s0, s1, s2, z0, z1, z2, z3, z4⟩ (fun hHeld => ?_)
   clear hK K s0 s1 s2 z0 z1 z2 z3 z4 hHeld
   refine S.w 71 ?_
   refine last_ (i := 5) (N := some 72) (S.um 7 63) rfl rfl (one_of HT_.out (by kernel_rfl)) (by decide) (fun K hK => ?_)
   refine S.g Tryd.func31 #[.pointer (some ⟨g, 0, none⟩), .agg #[.bool o.1, .slice B5 o.2.1.length d5, .slice B6 o.2.2.length d6], .agg #[.bool p.null, .slice A7 p.fst.length c7, .slice A8 p.lst.length c8]] rfl rfl ?_; (with_reducible refine (seq_pt k w0 w4 g Z4 n p.syms p.rows o (p.null, p.fst, p.lst) o2 B5 B6 A7 A8 d5 d6 c7 c8 HBd4.out HT.out HB4.out (V_of_R H54.out) (V_of_R H64.out) (V_of_R H74.out) (V_of_R H84.out) HO.out).mono ?_); rintro e w5 ⟨A9, c9, A10, c10, rfl, h9, h10, hbd, hbb, hkk⟩; refine ⟨_, rfl, ?_⟩
   have HNP4 : Hid (¬ Z4 gp) := Lib.hid (HZ4.out gp HNP.out HGPL.out); have HNR4 : Hid (¬ Z4 (w.heap.size + 1)) := Lib.hid (HZ4.out _ HNR.out HGRL.out)
   have KP5 := Lib.hid (blk_kept KP4.out hkk HNP4.out); have KR5 := Lib.hid (blk_kept KR4.out hkk HNR4.out)
   have HN4 := Lib.hid HBd4.out.new
   have H95 := Lib.hid (Kd.R_lower (Kd.R_mono h9 (ok' := fun q => ¬ Z4 q) (fun q h => HN4.out q h)) (Nat.le_trans HW2.out HS4.out)); have H105 := Lib.hid (Kd.R_lower (Kd.R_mono h10 (ok' := fun q => ¬ Z4 q) (fun q h => HN4.out q h)) (Nat.le_trans HW2.out HS4.out))
   have HBd5 := Lib.hid hbd; have HB5 := Lib.hid hbb; have HS5 := Lib.hid (Nat.le_trans HS4.out hkk.1)
   have HK5 : Hid (Kept w w5 Z) := Lib.hid (HK4.out.then_ hkk (fun q h => (HZI4.out q h).elim .inl (fun h4 => .inr (Nat.le_trans HW2.out h4))))
   clear hbd hbb hkk h9 h10 KP4 KR4 KY4 H54 H64 H74 H84 HBd4 HB4 HS4 HK4
   refine hK.out _ _ ?_
   clear hK K
   refine S.w 72 ?_
   refine last_ (i := 6) (N := none) (S.um 7 127) rfl rfl (one_of HT_.out (by kernel_rfl)) (by decide) (fun K hK => ?_)
   obtain ⟨s0, s1, s2, u0, u1, u2⟩ := cells3 KP5.out
   refine skip_ (w1 := ?_) (by rfl) rfl ?_ ?_; rotate_left
   ·go_simp; rfl
   clear s0 s1 s2 u0 u1 u2
   refine hK.out _ _ ?_; clear hK K
   refine done_ (done_of HT_.out (by kernel_rfl)) ?_; clear HT_ HW_
   have hs := st3_self (w := w5) (g := gp) (.bool o2.1.1) (.slice A9 o2.1.2.1.length c9) (.slice A10 o2.1.2.2.length c10)
   have KP6 : (st3 w5 gp (.bool o2.1.1) (.slice A9 o2.1.2.1.length c9) (.slice A10 o2.1.2.2.length c10)).heap[gp]? = some (.cells #[.bool o2.1.1, .slice A9 o2.1.2.1.length c9, .slice A10 o2.1.2.2.length c10] 54 (0, 0)) := st3_blk KP5.out
   have h96 := Kd.R_mono (Kd.R_kept (Kd.R_types H95.out KP5.out (by decide)) hs (fun q h1 h2 => h1.2 h2)) (ok' := fun q => ¬ Z4 q) (fun q h => h.1); have h106 := Kd.R_mono (Kd.R_kept (Kd.R_types H105.out KP5.out (by decide)) hs (fun q h1 h2 => h1.2 h2)) (ok' := fun q => ¬ Z4 q) (fun q h => h.1)
   have hbd6 := HBd5.out.kept hs (fun q h1 h2 => HNP4.out (h2 ▸ h1)); have hb6 := st3_below (g := gp) HB5.out (Nat.le_trans HBS.out HGP.out) (.bool o2.1.1) (.slice A9 o2.1.2.1.length c9) (.slice A10 o2.1.2.2.length c10); have hk6 := st3_kept (g := gp) HK5.out (.inr HGP.out) (.bool o2.1.1) (.slice A9 o2.1.2.1.length c9) (.slice A10 o2.1.2.2.length c10)
   have kr6 := blk_kept KR5.out hs HGNE.out; have hs6 := Nat.le_trans HS5.out hs.1
   have hw : wrap64 (x + 1) = x + 1 := by have h1 := HLT.out; have h2 := HLEN.out; have h3 := HX.out.1; unfold wrap64; omega
   generalize hw6 : st3 w5 gp (.bool o2.1.1) (.slice A9 o2.1.2.1.length c9) (.slice A10 o2.1.2.2.length c10) = w6 at KP6 h96 h106 hbd6 hb6 hk6 kr6 hs6
   have hw6' : ((w5.setCell ⟨gp, 0, none⟩ (.bool o2.1.1)).setCell ⟨gp, 1, none⟩ (.slice A9 o2.1.2.1.length c9)).setCell ⟨gp, 2, none⟩ (.slice A10 o2.1.2.2.length c10) = w6 := hw6
   rw [hw6']; clear hw6 hw6' hs
   have HKP6 := Lib.hid KP6; have H96 := Lib.hid h96; have H106 := Lib.hid h106; have HBd6 := Lib.hid hbd6; have HB6 := Lib.hid hb6; have HK6 := Lib.hid hk6; have HKR6 := Lib.hid kr6; have HS6 := Lib.hid hs6
   clear KP6 h96 h106 hbd6 hb6 hk6 kr6 hs6 b1 b2 b3
   go_wp2_with (fail)
   go_roundg (f4.length - (x + 1).toNat)
   case measure => have h1 := HLT.out; have h2 := HQ.out; have h3 := HX.out.1; omega
   case rel => exact ⟨x + 1, Z4, o2.1, p.syms, o2.2, A9, c9, A10, c10, by rw [hw], Lib.hid ⟨by have := HX.out.1; omega, by have := HLT.out; omega⟩, Lib.hid rfl, HRE, HBd6, HZI4, HB6, HK6, HKP6, HKR6, HS6, H96, H106⟩
  ·have hx : x = f4.length := by have := HX.out.2; omega
   subst hx
   have hm := HM.out
   rw [Int.toNat_natCast, List.drop_length] at hm
   unfold seqKids at hm
   obtain rfl := Option.some.inj hm
   clear hm HM
   have b1 : decide ((f4.length : Int) < (f4.length : Int)) = false := decide_eq_false hlt
   obtain ⟨p0, p1, p2, _, _, _⟩ := cells3 KPj.out
   obtain ⟨r0, r1, r2, u0, u1, u2⟩ := cells3 KRj.out
   go_wp2_with (fail)
   refine bodyPost_ret (results_cell_row rfl _ _ (w.heap.size + 1) 54 #[.bool o.1, .slice B5 o.2.1.length d5, .slice B6 o.2.2.length d6] (0, 0) _ rfl (st3_blk KRj.out) Tryd.underlying54 rfl (by kernel_rfl)) rfl ?_
   have hs := st3_self (w := wr) (g := w.heap.size + 1) (.bool o.1) (.slice B5 o.2.1.length d5) (.slice B6 o.2.2.length d6)
   have HNR : Hid (¬ Z' (w.heap.size + 1)) := Lib.hid (fun hz => (HZj.out _ hz).elim (HNZ.out _ (Nat.le_add_right _ 1)) (fun h => Nat.lt_irrefl _ (Nat.lt_of_lt_of_le HGR2.out h)))
   have V5 := Kd.R_mono (Kd.R_kept (Kd.R_types H5j.out KRj.out (by decide)) hs (fun k h1 h2 => h1.2 h2)) (ok' := fun k => ¬ Z' k) (fun k h => h.1)
   have V6 := Kd.R_mono (Kd.R_kept (Kd.R_types H6j.out KRj.out (by decide)) hs (fun k h1 h2 => h1.2 h2)) (ok' := fun k => ¬ Z' k) (fun k h => h.1)
   exact ⟨Z', B5, d5, B6, d6, rfl, V5, V6, HBdj.out.kept hs (fun q h1 h2 => HNR.out (h2 ▸ h1)), fun q h => (HZj.out q h).elim .inl (fun h4 => .inr (Nat.le_trans HW2.out h4)), st3_below HBj.out (Nat.le_trans HBS.out (Nat.le_add_right _ 1)) _ _ _, st3_kept HKj.out (.inr (Nat.le_add_right _ 1)) _ _ _⟩
end Go.Proofs.YthocjdlcopmhiaaDoor.G
namespace Go.Proofs.YthocjdlcopmhiaaDoor.G
open Go.RowKit Go.Proofs.YthocjdlcopmhiaaDoorW.PrintWords Go.Proofs.YthocjdlcopmhiaaDoorW.PrintLast Go.Proofs.YthocjdlcopmhiaaDoorW.PrintMore
attribute [local go_sem] max2_int min2_int max_two min_two max_three min_three max_four min_four
set_option linter.unusedVariables false
set_option linter.unusedSimpArgs false
set_option maxHeartbeats 8000000 in
set_option maxRecDepth 100000 in
theorem part_alt (k : Nat) (n : Int) (hn0 : 0 ≤ n) (hn1 : n ≤ 512) (pf : PFn) (hpf : PartOk 19 n pf) (w0 w : World) (g : Nat) (Z : Nat → Prop) (syms : List Int) (rows : List (List Int)) (f1 f2 f3 : Int) (f4 : List Pr.S24) (A : Option Addr) (c : Nat) (r : PR)
  (hb : Bd w0 w g Z n syms rows) (htab : HTab w0) (hB : Below w0.heap.size w0 w) (hC : Kd.C Pr.k24 w0 A f4.length f4) (hc : f4.length ≤ c) (h : altKids k pf f4 (fresh0 n false) syms rows = some r) :
  Calls Tryd.prog 19 #[.pointer (some ⟨g, 0, none⟩), EV ⟨4, f1, f2, f3, f4⟩ A c] w (PartPost w0 w g Z n r) := by
 have hu54 := Tryd.underlying54; have hu24 := Tryd.underlying24
 have hlen : f4.length ≤ 9223372036854775807 := hC.2.1
 unfold EV
 dsimp only
 have HBd := Lib.hid hb; have HB := Lib.hid hB; have HH := Lib.hid h; have HC := Lib.hid hC; have HT := Lib.hid htab; have HPF := Lib.hid hpf; have HLEN := Lib.hid hlen
 clear hb hB h hC htab hpf hlen hc
 go_enter Tryd.func19, Tryd.ntmps19
 go_wp2_with (fail)
 have HB2 := below_alloc (below_alloc (Below.refl w.heap.size w) (.cells #[.int .i64 4, .int .i64 f1, .int .i64 f2, .int .i64 f3, .slice A f4.length c] 24)) (.cells #[.bool false, .slice none 0 0, .slice none 0 0] 54)
 have KX : ((w.alloc (.cells #[.int .i64 4, .int .i64 f1, .int .i64 f2, .int .i64 f3, .slice A f4.length c] 24)).alloc (.cells #[.bool false, .slice none 0 0, .slice none 0 0] 54)).heap[w.heap.size]? = some (.cells #[.int .i64 4, .int .i64 f1, .int .i64 f2, .int .i64 f3, .slice A f4.length c] 24 (0, 0)) := blk_alloc (blk_new w _) _
 have KR : ((w.alloc (.cells #[.int .i64 4, .int .i64 f1, .int .i64 f2, .int .i64 f3, .slice A f4.length c] 24)).alloc (.cells #[.bool false, .slice none 0 0, .slice none 0 0] 54)).heap[w.heap.size + 1]? = some (.cells #[.bool false, .slice none 0 0, .slice none 0 0] 54 (0, 0)) := by
  have := blk_new (w.alloc (.cells #[.int .i64 4, .int .i64 f1, .int .i64 f2, .int .i64 f3, .slice A f4.length c] 24)) (.cells #[.bool false, .slice none 0 0, .slice none 0 0] 54); simpa using this
 generalize (w.alloc (.cells #[.int .i64 4, .int .i64 f1, .int .i64 f2, .int .i64 f3, .slice A f4.length c] 24)).alloc (.cells #[.bool false, .slice none 0 0, .slice none 0 0] 54) = wA at HB2 KX KR ⊢
 have hBA := HBd.out.below HB2
 refine (none_calls g n false wA (by obtain ⟨⟨v1, v2, hbk, _⟩, _⟩ := hBA; exact (blk_cell hbk 0).trans rfl) hn0 hn1).mono ?_
 rintro e w1 ⟨v5, v6, rfl, h5, h6, hb1⟩
 obtain ⟨A5, c5, rfl⟩ := Kd.R_slice h5
 obtain ⟨A6, c6, rfl⟩ := Kd.R_slice h6
 have HNE : Hid (∀ q, some q = (Value.slice A5 (freshF n).length c5).ownBlock → some q = (Value.slice A6 (freshF n).length c6).ownBlock → False) := Lib.hid (fun q h1 h2 => h5.1 q h1.symm h2)
 have HBd1 := Lib.hid (hBA.below hb1)
 have HB1 := Lib.hid (below_step (below_step HB.out HB2) hb1)
 have HBW := Lib.hid (below_step HB2 hb1)
 have KX1 := Lib.hid (blk_below KX hb1); have KR1 := Lib.hid (blk_below KR hb1)
 have HNZ := Lib.hid HBd.out.new
 have H5 := Lib.hid (Kd.R_mono (Kd.R_bound (Kd.R_lower h5 HB2.size)) (ok' := fun k => ¬ Z k) (fun k hk => HNZ.out k hk.2.1)); have H6 := Lib.hid (Kd.R_mono (Kd.R_bound (Kd.R_lower h6 HB2.size)) (ok' := fun k => ¬ Z k) (fun k hk => HNZ.out k hk.2.1))
 have HBS := Lib.hid HB.out.size
 clear KX KR hBA hb1 HB2 h5 h6 HB HBd
 go_upto_region 20 with (fail)
 have hbp := below_alloc (Below.refl w1.heap.size w1) (.cells #[.bool false, .slice A5 (freshF n).length c5, .slice A6 (freshF n).length c6] 54)
 have KP : (w1.alloc (.cells #[.bool false, .slice A5 (freshF n).length c5, .slice A6 (freshF n).length c6] 54)).heap[w1.heap.size]? = some (.cells #[.bool false, .slice A5 (freshF n).length c5, .slice A6 (freshF n).length c6] 54 (0, 0)) := blk_new w1 _
 have HBd2 := Lib.hid (HBd1.out.below hbp); have HB2 := Lib.hid (below_step HB1.out hbp); have HK2 := Lib.hid (Kept.of_below (below_step HBW.out hbp) Z); have KX2 := Lib.hid (blk_below KX1.out hbp); have KR2 := Lib.hid (blk_below KR1.out hbp); have H52 := Lib.hid (Kd.R_below H5.out hbp); have H62 := Lib.hid (Kd.R_below H6.out hbp)
 have HGP := Lib.hid HBW.out.size
 have HGP1 : Hid (¬ w.heap.size + 1 = w1.heap.size) := Lib.hid (fun h => Nat.lt_irrefl _ (h ▸ blk_lt KR1.out))
 clear hbp H5 H6 KX1 KR1 HBd1 HB1 HBW
 generalize w1.alloc (.cells #[.bool false, .slice A5 (freshF n).length c5, .slice A6 (freshF n).length c6] 54) = w2 at KP HBd2 HB2 HK2 KX2 KR2 H52 H62 ⊢
 generalize w1.heap.size = gp at KP HGP HGP1 ⊢
 have KP2 := Lib.hid KP; clear KP
 have HGP2 := Lib.hid (blk_lt KP2.out); have HGR2 := Lib.hid (blk_lt KR2.out); have HW2 := Lib.hid HK2.out.1
 have HGNE : Hid (¬ w.heap.size + 1 = gp) := Lib.hid HGP1.out
 have hx4 : w2.cell? ⟨w.heap.size, 4, none⟩ = some (.slice A f4.length c) := (blk_cell KX2.out 4).trans rfl
 go_wp2_with (fail)
 clear hx4
 go_loopg [82] f4.length (fun kq v82 w' => ∃ (x : Int) (Z' : Nat → Prop) (o : Pt) (sy : List Int) (rw_ : List (List Int)) (A5 : Option Addr) (c5 : Nat) (A6 : Option Addr) (c6 : Nat), v82 = .int .i64 x ∧ Hid (0 ≤ x ∧ x ≤ f4.length) ∧ Hid (kq = f4.length - x.toNat) ∧ Hid (altKids k pf (f4.drop x.toNat) o sy rw_ = some r) ∧ Hid (Bd w0 w' g Z' n sy rw_) ∧ Hid (∀ k, Z' k → Z k ∨ w2.heap.size ≤ k) ∧ Hid (Below w0.heap.size w0 w') ∧ Hid (Kept w w' Z) ∧
  Hid (w'.heap[gp]? = some (.cells #[.bool o.1, .slice A5 o.2.1.length c5, .slice A6 o.2.2.length c6] 54 (0, 0))) ∧ Hid (w'.heap[w.heap.size + 1]? = some (.cells #[.bool false, .slice none 0 0, .slice none 0 0] 54 (0, 0))) ∧ Hid (w2.heap.size ≤ w'.heap.size) ∧
  Hid (Kd.R KU 77 w' w.heap.size (fun k => ¬ Z' k) (.slice A5 o.2.1.length c5) o.2.1) ∧ Hid (Kd.R KU 77 w' w.heap.size (fun k => ¬ Z' k) (.slice A6 o.2.2.length c6) o.2.2) ∧ Hid (∀ q, some q = (Value.slice A5 o.2.1.length c5).ownBlock → some q = (Value.slice A6 o.2.2.length c6).ownBlock → False))
 case atStart => exact ⟨0, Z, fresh0 n false, syms, rows, A5, c5, A6, c6, rfl, Lib.hid ⟨Int.le_refl _, by omega⟩, Lib.hid rfl, HH, HBd2, Lib.hid (fun _ h => .inl h), HB2, HK2, KP2, KR2, Lib.hid (Nat.le_refl _), H52, H62, HNE⟩
 case round =>
  obtain ⟨x, Z', o, sy, rw_, B5, d5, B6, d6, rfl, HX, HQ, HM, HBdj, HZj, HBj, HKj, KPj, KRj, HSj, H5j, H6j, HNEj⟩ := hrel
  by_cases hlt : x < f4.length
  ·have hm := HM.out
   rw [rd_eq f4 x HX.out.1 hlt] at hm
   unfold altKids at hm
   obtain ⟨p, hp, hm⟩ := Option.bind_eq_some_iff.1 hm
   obtain ⟨f, hj1, hm⟩ := Option.bind_eq_some_iff.1 hm
   obtain ⟨l, hj2, hm⟩ := Option.bind_eq_some_iff.1 hm
   obtain ⟨ad, A4, c4, eA, y0, y1, y2, y3, y4, hc4, hC4⟩ := Pr.at_T24 HC.out x HX.out.1 hlt
   subst eA
   have q0 := cell_below y0 HBj.out; have q1 := cell_below y1 HBj.out; have q2 := cell_below y2 HBj.out; have q3 := cell_below y3 HBj.out; have q4 := cell_below y4 HBj.out
   clear y0 y1 y2 y3 y4
   generalize Pr.rd_T24 f4 x = y at hp q0 q1 q2 q3 q4 hc4 hC4
   have HP := Lib.hid hp; have HJ1 := Lib.hid hj1; have HJ2 := Lib.hid hj2; have HRE := Lib.hid hm; have HC4 := Lib.hid hC4; have Hc4 := Lib.hid hc4; have HLT := Lib.hid hlt
   have b1 : decide (x < (f4.length : Int)) = true := decide_eq_true hlt
   have b2 : (0 ≤ x) = True := eq_true HX.out.1
   have b3 : (x < (f4.length : Int)) = True := eq_true hlt
   clear hp hj1 hj2 hm hC4 hc4 hlt HM
   go_upto_region 23 with (fail)
   clear q0 q1 q2 q3 q4 b1 b2 b3
   have hby := below_alloc (Below.refl wr.heap.size wr) (.cells #[.int .i64 y.f0, .int .i64 y.f1, .int .i64 y.f2, .int .i64 y.f3, .slice A4 y.f4.length c4] 24)
   have KY : (wr.alloc (.cells #[.int .i64 y.f0, .int .i64 y.f1, .int .i64 y.f2, .int .i64 y.f3, .slice A4 y.f4.length c4] 24)).heap[wr.heap.size]? = some (.cells #[.int .i64 y.f0, .int .i64 y.f1, .int .i64 y.f2, .int .i64 y.f3, .slice A4 y.f4.length c4] 24 (0, 0)) := blk_new wr _
   have HBd3 := Lib.hid (HBdj.out.below hby); have HB3 := Lib.hid (below_step HBj.out hby); have HK3 := Lib.hid (HKj.out.below hby); have KP3 := Lib.hid (blk_below KPj.out hby); have KR3 := Lib.hid (blk_below KRj.out hby); have H53 := Lib.hid (Kd.R_below H5j.out hby); have H63 := Lib.hid (Kd.R_below H6j.out hby)
   have HS3 := Lib.hid (Nat.le_trans HSj.out hby.size); have HGY := Lib.hid HSj.out
   clear hby HBdj HBj HKj KPj KRj H5j H6j HSj
   generalize wr.alloc (.cells #[.int .i64 y.f0, .int .i64 y.f1, .int .i64 y.f2, .int .i64 y.f3, .slice A4 y.f4.length c4] 24) = w3 at KY HBd3 HB3 HK3 KP3 KR3 H53 H63 HS3 ⊢
   generalize wr.heap.size = gy at KY HGY ⊢
   have y0 : w3.cell? ⟨gy, 0, none⟩ = some (.int .i64 y.f0) := (blk_cell KY 0).trans rfl
   have y1 : w3.cell? ⟨gy, 1, none⟩ = some (.int .i64 y.f1) := (blk_cell KY 1).trans rfl
   have y2 : w3.cell? ⟨gy, 2, none⟩ = some (.int .i64 y.f2) := (blk_cell KY 2).trans rfl
   have y3 : w3.cell? ⟨gy, 3, none⟩ = some (.int .i64 y.f3) := (blk_cell KY 3).trans rfl
   have y4 : w3.cell? ⟨gy, 4, none⟩ = some (.slice A4 y.f4.length c4) := (blk_cell KY 4).trans rfl
   clear KY
   go_wp2_with (fail)
   clear y0 y1 y2 y3 y4
   (with_reducible refine (HPF.out.call w0 w3 g Z' sy rw_ y A4 c4 p HBd3.out HT.out HB3.out HC4.out Hc4.out HP.out).mono ?_); rintro e w4 ⟨Z4, A7, c7, A8, c8, rfl, h7, h8, hbd, hzi, hbb, hkk⟩
   have HZ4 := Lib.hid (fun (q : Nat) (h1 : ¬ Z' q) (h2 : q < w3.heap.size) (h3 : Z4 q) => ((hzi q h3).elim h1 (fun h4 => Nat.lt_irrefl _ (Nat.lt_of_lt_of_le h2 h4)) : False))
   have HGPL := Lib.hid (blk_lt KP3.out); have HGRL := Lib.hid (blk_lt KR3.out)
   have HNP : Hid (¬ Z' gp) := Lib.hid (fun hz => (HZj.out gp hz).elim (HNZ.out gp HGP.out) (fun h => Nat.lt_irrefl _ (Nat.lt_of_lt_of_le HGP2.out h)))
   have HNR : Hid (¬ Z' (w.heap.size + 1)) := Lib.hid (fun hz => (HZj.out _ hz).elim (HNZ.out _ (Nat.le_add_right _ 1)) (fun h => Nat.lt_irrefl _ (Nat.lt_of_lt_of_le HGR2.out h)))
   have KP4 := Lib.hid (blk_kept KP3.out hkk HNP.out); have KR4 := Lib.hid (blk_kept KR3.out hkk HNR.out)
   have HOW5 := Lib.hid (fun q (h : some q = (Value.slice B5 o.2.1.length d5).ownBlock) => (⟨Kd.R_base H53.out q h.symm, Kd.R_lt H53.out q h.symm⟩ : w.heap.size ≤ q ∧ q < w3.heap.size)); have HOW6 := Lib.hid (fun q (h : some q = (Value.slice B6 o.2.2.length d6).ownBlock) => (⟨Kd.R_base H63.out q h.symm, Kd.R_lt H63.out q h.symm⟩ : w.heap.size ≤ q ∧ q < w3.heap.size))
   have H54 := Lib.hid (Kd.R_mono (Kd.R_kept (Kd.R_bound H53.out) hkk (fun q h1 h2 => h1.1 h2)) (ok' := fun q => ¬ Z4 q) (fun q h => HZ4.out q h.1 h.2.2.1)); have H64 := Lib.hid (Kd.R_mono (Kd.R_kept (Kd.R_bound H63.out) hkk (fun q h1 h2 => h1.1 h2)) (ok' := fun q => ¬ Z4 q) (fun q h => HZ4.out q h.1 h.2.2.1))
   have HBd4 := Lib.hid hbd; have HB4 := Lib.hid hbb; have HS4 := Lib.hid (Nat.le_trans HS3.out hkk.1)
   have HZI4 : Hid (∀ q, Z4 q → Z q ∨ w2.heap.size ≤ q) := Lib.hid (fun q h => (hzi q h).elim (HZj.out q) (fun h4 => .inr (Nat.le_trans HS3.out h4)))
   have HK4 : Hid (Kept w w4 Z) := Lib.hid (HK3.out.then_ hkk (fun q h => (HZj.out q h).elim .inl (fun h4 => .inr (Nat.le_trans HW2.out h4))))
   have H74 := Lib.hid (Kd.V_mono (V_of_R (b' := 0) (Kd.R_bound h7)) (ok' := fun q => w3.heap.size ≤ q) (fun q h => h.2.1)); have H84 := Lib.hid (Kd.V_mono (V_of_R (b' := 0) (Kd.R_bound h8)) (ok' := fun q => w3.heap.size ≤ q) (fun q h => h.2.1))
   have HNP4 : Hid (¬ Z4 gp) := Lib.hid (HZ4.out gp HNP.out HGPL.out); have HNR4 : Hid (¬ Z4 (w.heap.size + 1)) := Lib.hid (HZ4.out _ HNR.out HGRL.out)
   clear hbd hzi hbb hkk h7 h8 KP3 KR3 H53 H63 HBd3 HB3 HK3 HS3
   go_upto_region 24 with (fail)
   have hbq := below_alloc (Below.refl w4.heap.size w4) (.cells #[.bool p.null, .slice A7 p.fst.length c7, .slice A8 p.lst.length c8] 54)
   have KQ : (w4.alloc (.cells #[.bool p.null, .slice A7 p.fst.length c7, .slice A8 p.lst.length c8] 54)).heap[w4.heap.size]? = some (.cells #[.bool p.null, .slice A7 p.fst.length c7, .slice A8 p.lst.length c8] 54 (0, 0)) := blk_new w4 _
   have HBd5 := Lib.hid (HBd4.out.below hbq); have HB5 := Lib.hid (below_step HB4.out hbq); have HK5 := Lib.hid (HK4.out.below hbq); have KP5 := Lib.hid (blk_below KP4.out hbq); have KR5 := Lib.hid (blk_below KR4.out hbq); have H55 := Lib.hid (Kd.R_below H54.out hbq); have H65 := Lib.hid (Kd.R_below H64.out hbq); have H75 := Lib.hid (Kd.V_below H74.out hbq); have H85 := Lib.hid (Kd.V_below H84.out hbq); have HS5 := Lib.hid (Nat.le_trans HS4.out hbq.size)
   have HGX := Lib.hid HS4.out; have HXP : Hid (¬ w4.heap.size = gp) := Lib.hid (fun h => Nat.lt_irrefl _ (h ▸ blk_lt KP4.out))
   clear hbq HBd4 HB4 HK4 KP4 KR4 H54 H64 H74 H84 HS4
   generalize w4.alloc (.cells #[.bool p.null, .slice A7 p.fst.length c7, .slice A8 p.lst.length c8] 54) = w5 at KQ HBd5 HB5 HK5 KP5 KR5 H55 H65 H75 H85 HS5 ⊢
   generalize w4.heap.size = gx at KQ HGX HXP ⊢
   have KQ5 := Lib.hid KQ; clear KQ
   obtain ⟨x0, x1, x2, _, _, _⟩ := cells3 KQ5.out
   obtain ⟨p0, p1, p2, u0, u1, u2⟩ := cells3 KP5.out
   have hw5 : Hid (∃ w6, w6 = w5.setCell ⟨gp, 0, none⟩ (.bool (o.1 || p.null))) := Lib.hid ⟨_, rfl⟩
   obtain ⟨on, of_, ol⟩ := o
   dsimp only at HNEj HOW5 HOW6
   cases on
   case false =>
    go_upto_region 25 with (fail)
    clear x0 x1 x2 p0 p1 p2 u0 u1 u2
    have hs : Kept w5 (w5.setCell ⟨gp, 0, none⟩ (.bool p.null)) (fun q => q = gp) := Kept.setCell (S := fun q => q = gp) (Kept.refl w5 _) (p := ⟨gp, 0, none⟩) (.inl rfl) _
    have KP := blk_put KP5.out 0 (.bool p.null) rfl
    have HBd6 := Lib.hid (HBd5.out.kept hs (fun q h1 h2 => HNP4.out (h2 ▸ h1))); have HB6 := Lib.hid (HB5.out.setCell (p := ⟨gp, 0, none⟩) (Nat.le_trans HBS.out HGP.out) (.bool p.null)); have HK6 := Lib.hid (HK5.out.setCell (p := ⟨gp, 0, none⟩) (.inr HGP.out) (.bool p.null)); have KR6 := Lib.hid (blk_kept KR5.out hs HGNE.out); have KQ6 := Lib.hid (blk_kept KQ5.out hs HXP.out)
    have H56 := Lib.hid (Kd.R_mono (Kd.R_kept (Kd.R_types H55.out KP5.out (by decide)) hs (fun q h1 h2 => h1.2 h2)) (ok' := fun q => ¬ Z4 q) (fun q h => h.1)); have H66 := Lib.hid (Kd.R_mono (Kd.R_kept (Kd.R_types H65.out KP5.out (by decide)) hs (fun q h1 h2 => h1.2 h2)) (ok' := fun q => ¬ Z4 q) (fun q h => h.1))
    have H76 := Lib.hid (Kd.V_kept H75.out hs (fun q h1 h2 => Nat.lt_irrefl _ (Nat.lt_of_lt_of_le HGPL.out (h2 ▸ h1)))); have H86 := Lib.hid (Kd.V_kept H85.out hs (fun q h1 h2 => Nat.lt_irrefl _ (Nat.lt_of_lt_of_le HGPL.out (h2 ▸ h1)))); have HS6 := Lib.hid (Nat.le_trans HS5.out hs.1)
    clear hs HBd5 HB5 HK5 KP5 KR5 KQ5 H55 H65 H75 H85 HS5
    generalize w5.setCell ⟨gp, 0, none⟩ (.bool p.null) = w6 at KP HBd6 HB6 HK6 KR6 KQ6 H56 H66 H76 H86 HS6 ⊢
    have KP6 : Hid (w6.heap[gp]? = some (.cells #[.bool p.null, .slice B5 of_.length d5, .slice B6 ol.length d6] 54 (0, 0))) := Lib.hid KP
    clear KP
    obtain ⟨x0, x1, x2, _, _, _⟩ := cells3 KQ6.out
    obtain ⟨p0, p1, p2, _, _, _⟩ := cells3 KP6.out
    go_wp2_with (fail)
    clear x0 x1 x2 p0 p1 p2
    (with_reducible refine (Pr.glush_set_join.calls k (fun q => some q = (Value.slice B5 of_.length d5).ownBlock) (.slice B5 of_.length d5) of_ A7 c7 p.fst f w0 w6 HB6.out (Kd.R_mono (Kd.R_tight rfl (Kd.R_lower H56.out HBS.out)) (fun _ h => h)) ?hr1 (Kd.V_at H76.out).2.1 HJ1.out).mono ?_)
    case hr1 => exact fun W_ hk => Kd.F_now (Kd.V_at (Kd.V_kept H76.out hk (fun q h1 h2 => Nat.lt_irrefl q (Nat.lt_of_lt_of_le (HOW5.out q h2).2 h1)))).2.2
    rintro e w7 ⟨rfl, hr, hb, hk⟩
    have hown : ∀ q, some q = (Value.slice B5 of_.length d5).ownBlock → w.heap.size ≤ q ∧ q < w3.heap.size := HOW5.out
    have HNG : ∀ b, w3.heap.size ≤ b → ¬ some b = (Value.slice B5 of_.length d5).ownBlock := fun b hb2 h => Nat.lt_irrefl b (Nat.lt_of_lt_of_le (hown b h).2 hb2)
    have KP7 := Lib.hid (blk_kept KP6.out hk (fun h => Kd.R_ne H56.out KP6.out (by decide) h)); have KR7 := Lib.hid (blk_kept KR6.out hk (fun h => Kd.R_ne H56.out KR6.out (by decide) h)); have KQ7 := Lib.hid (blk_kept KQ6.out hk (fun h => Kd.R_ne H56.out KQ6.out (by decide) h))
    have HBd7 := Lib.hid (HBd6.out.kept hk (fun q h1 h2 => H56.out.1 q h2.symm h1)); have HB7 := Lib.hid hb; have HK7 := Lib.hid (HK6.out.then_ hk (fun q h => .inr (hown q h).1)); have HS7 := Lib.hid (Nat.le_trans HS6.out hk.1)
    have H77 := Lib.hid (Kd.V_kept H76.out hk (fun q h1 h2 => HNG q h1 h2)); have H87 := Lib.hid (Kd.V_kept H86.out hk (fun q h1 h2 => HNG q h1 h2))
    have HLEN5 := Lib.hid (Kd.R_reads' hr).1
    have HRN := Lib.hid (R_up2 (Kd.R_tight rfl hr) (b' := w.heap.size) (ok' := fun q => ¬ Z4 q) (fun q h => ⟨(hown q h).1, H56.out.1 q h.symm⟩))
    have H67 := Lib.hid (Kd.R_mono (Kd.R_kept (Kd.R_tight rfl H66.out) hk (fun q h1 h2 => HNEj.out q h2 h1)) (ok' := fun q => ¬ Z4 q) (fun q h => H66.out.1 q h.symm))
    clear hr hb hk hown HNG KP6 KR6 KQ6 HBd6 HB6 HK6 HS6 H76 H86 H56 H66
    have H57 := HRN; clear HRN
    obtain ⟨x0, x1, x2, _, _, _⟩ := cells3 KQ7.out
    obtain ⟨p0, p1, p2, _, _, _⟩ := cells3 KP7.out
    go_wp2_with (fail)
    clear x0 x1 x2 p0 p1 p2
    (with_reducible refine (Pr.glush_set_join.calls k (fun q => some q = (Value.slice B6 ol.length d6).ownBlock) (.slice B6 ol.length d6) ol A8 c8 p.lst l w0 w7 HB7.out (Kd.R_mono (Kd.R_tight rfl (Kd.R_lower H67.out HBS.out)) (fun _ h => h)) ?hr1 (Kd.V_at H87.out).2.1 HJ2.out).mono ?_)
    case hr1 => exact fun W_ hk => Kd.F_now (Kd.V_at (Kd.V_kept H87.out hk (fun q h1 h2 => Nat.lt_irrefl q (Nat.lt_of_lt_of_le (HOW6.out q h2).2 h1)))).2.2
    rintro e w8 ⟨rfl, hr, hb, hk⟩
    have hown : ∀ q, some q = (Value.slice B6 ol.length d6).ownBlock → w.heap.size ≤ q ∧ q < w3.heap.size := HOW6.out
    have HNG : ∀ b, w3.heap.size ≤ b → ¬ some b = (Value.slice B6 ol.length d6).ownBlock := fun b hb2 h => Nat.lt_irrefl b (Nat.lt_of_lt_of_le (hown b h).2 hb2)
    have KP8 := Lib.hid (blk_kept KP7.out hk (fun h => Kd.R_ne H67.out KP7.out (by decide) h)); have KR8 := Lib.hid (blk_kept KR7.out hk (fun h => Kd.R_ne H67.out KR7.out (by decide) h)); have KQ8 := Lib.hid (blk_kept KQ7.out hk (fun h => Kd.R_ne H67.out KQ7.out (by decide) h))
    have HBd8 := Lib.hid (HBd7.out.kept hk (fun q h1 h2 => H67.out.1 q h2.symm h1)); have HB8 := Lib.hid hb; have HK8 := Lib.hid (HK7.out.then_ hk (fun q h => .inr (hown q h).1)); have HS8 := Lib.hid (Nat.le_trans HS7.out hk.1)
    have H78 := Lib.hid (Kd.V_kept H77.out hk (fun q h1 h2 => HNG q h1 h2)); have H88 := Lib.hid (Kd.V_kept H87.out hk (fun q h1 h2 => HNG q h1 h2))
    have HLEN6 := Lib.hid (Kd.R_reads' hr).1
    have HRN := Lib.hid (R_up2 (Kd.R_tight rfl hr) (b' := w.heap.size) (ok' := fun q => ¬ Z4 q) (fun q h => ⟨(hown q h).1, H67.out.1 q h.symm⟩))
    have H58 := Lib.hid (Kd.R_mono (Kd.R_kept (Kd.R_tight rfl H57.out) hk (fun q h1 h2 => HNEj.out q h1 h2)) (ok' := fun q => ¬ Z4 q) (fun q h => H57.out.1 q h.symm))
    clear hr hb hk hown HNG KP7 KR7 KQ7 HBd7 HB7 HK7 HS7 H77 H87 H57 H67
    have H68 := HRN; clear HRN
    have e5 : of_.length = f.length := HLEN5.out
    have e6 : ol.length = l.length := HLEN6.out
    have KPZ : Hid (w8.heap[gp]? = some (.cells #[.bool (false || p.null), .slice B5 f.length d5, .slice B6 l.length d6] 54 (0, 0))) := Lib.hid (by have := KP8.out; rw [e5, e6] at this; exact this)
    have H5Z := Lib.hid (R_len e5 H58.out); have H6Z := Lib.hid (R_len e6 H68.out)
    have HNEZ : Hid (∀ q, some q = (Value.slice B5 f.length d5).ownBlock → some q = (Value.slice B6 l.length d6).ownBlock → False) := Lib.hid (fun q h1 h2 => HNEj.out q (by rw [e5]; exact h1) (by rw [e6]; exact h2))
    clear KP8 H58 H68 e5 e6
    have hw : wrap64 (x + 1) = x + 1 := by have h1 := HLT.out; have h2 := HLEN.out; have h3 := HX.out.1; unfold wrap64; omega
    go_wp2_with (fail)
    go_roundg (f4.length - (x + 1).toNat)
    case measure => have h1 := HLT.out; have h2 := HQ.out; have h3 := HX.out.1; omega
    case rel => exact ⟨x + 1, Z4, (false || p.null, f, l), p.syms, p.rows, B5, d5, B6, d6, by rw [hw], Lib.hid ⟨by have := HX.out.1; omega, by have := HLT.out; omega⟩, Lib.hid rfl, HRE, HBd8, HZI4, HB8, HK8, KPZ, KR8, HS8, H5Z, H6Z, HNEZ⟩
   case true =>
    go_upto_region 25 with (fail)
    clear x0 x1 x2 p0 p1 p2 u0 u1 u2
    have hs : Kept w5 (w5.setCell ⟨gp, 0, none⟩ (.bool true)) (fun q => q = gp) := Kept.setCell (S := fun q => q = gp) (Kept.refl w5 _) (p := ⟨gp, 0, none⟩) (.inl rfl) _
    have KP := blk_put KP5.out 0 (.bool true) rfl
    have HBd6 := Lib.hid (HBd5.out.kept hs (fun q h1 h2 => HNP4.out (h2 ▸ h1))); have HB6 := Lib.hid (HB5.out.setCell (p := ⟨gp, 0, none⟩) (Nat.le_trans HBS.out HGP.out) (.bool true)); have HK6 := Lib.hid (HK5.out.setCell (p := ⟨gp, 0, none⟩) (.inr HGP.out) (.bool true)); have KR6 := Lib.hid (blk_kept KR5.out hs HGNE.out); have KQ6 := Lib.hid (blk_kept KQ5.out hs HXP.out)
    have H56 := Lib.hid (Kd.R_mono (Kd.R_kept (Kd.R_types H55.out KP5.out (by decide)) hs (fun q h1 h2 => h1.2 h2)) (ok' := fun q => ¬ Z4 q) (fun q h => h.1)); have H66 := Lib.hid (Kd.R_mono (Kd.R_kept (Kd.R_types H65.out KP5.out (by decide)) hs (fun q h1 h2 => h1.2 h2)) (ok' := fun q => ¬ Z4 q) (fun q h => h.1))
    have H76 := Lib.hid (Kd.V_kept H75.out hs (fun q h1 h2 => Nat.lt_irrefl _ (Nat.lt_of_lt_of_le HGPL.out (h2 ▸ h1)))); have H86 := Lib.hid (Kd.V_kept H85.out hs (fun q h1 h2 => Nat.lt_irrefl _ (Nat.lt_of_lt_of_le HGPL.out (h2 ▸ h1)))); have HS6 := Lib.hid (Nat.le_trans HS5.out hs.1)
    clear hs HBd5 HB5 HK5 KP5 KR5 KQ5 H55 H65 H75 H85 HS5
    generalize w5.setCell ⟨gp, 0, none⟩ (.bool true) = w6 at KP HBd6 HB6 HK6 KR6 KQ6 H56 H66 H76 H86 HS6 ⊢
    have KP6 : Hid (w6.heap[gp]? = some (.cells #[.bool true, .slice B5 of_.length d5, .slice B6 ol.length d6] 54 (0, 0))) := Lib.hid KP
    clear KP
    obtain ⟨x0, x1, x2, _, _, _⟩ := cells3 KQ6.out
    obtain ⟨p0, p1, p2, _, _, _⟩ := cells3 KP6.out
    go_wp2_with (fail)
    clear x0 x1 x2 p0 p1 p2
    (with_reducible refine (Pr.glush_set_join.calls k (fun q => some q = (Value.slice B5 of_.length d5).ownBlock) (.slice B5 of_.length d5) of_ A7 c7 p.fst f w0 w6 HB6.out (Kd.R_mono (Kd.R_tight rfl (Kd.R_lower H56.out HBS.out)) (fun _ h => h)) ?hr1 (Kd.V_at H76.out).2.1 HJ1.out).mono ?_)
    case hr1 => exact fun W_ hk => Kd.F_now (Kd.V_at (Kd.V_kept H76.out hk (fun q h1 h2 => Nat.lt_irrefl q (Nat.lt_of_lt_of_le (HOW5.out q h2).2 h1)))).2.2
    rintro e w7 ⟨rfl, hr, hb, hk⟩
    have hown : ∀ q, some q = (Value.slice B5 of_.length d5).ownBlock → w.heap.size ≤ q ∧ q < w3.heap.size := HOW5.out
    have HNG : ∀ b, w3.heap.size ≤ b → ¬ some b = (Value.slice B5 of_.length d5).ownBlock := fun b hb2 h => Nat.lt_irrefl b (Nat.lt_of_lt_of_le (hown b h).2 hb2)
    have KP7 := Lib.hid (blk_kept KP6.out hk (fun h => Kd.R_ne H56.out KP6.out (by decide) h)); have KR7 := Lib.hid (blk_kept KR6.out hk (fun h => Kd.R_ne H56.out KR6.out (by decide) h)); have KQ7 := Lib.hid (blk_kept KQ6.out hk (fun h => Kd.R_ne H56.out KQ6.out (by decide) h))
    have HBd7 := Lib.hid (HBd6.out.kept hk (fun q h1 h2 => H56.out.1 q h2.symm h1)); have HB7 := Lib.hid hb; have HK7 := Lib.hid (HK6.out.then_ hk (fun q h => .inr (hown q h).1)); have HS7 := Lib.hid (Nat.le_trans HS6.out hk.1)
    have H77 := Lib.hid (Kd.V_kept H76.out hk (fun q h1 h2 => HNG q h1 h2)); have H87 := Lib.hid (Kd.V_kept H86.out hk (fun q h1 h2 => HNG q h1 h2))
    have HLEN5 := Lib.hid (Kd.R_reads' hr).1
    have HRN := Lib.hid (R_up2 (Kd.R_tight rfl hr) (b' := w.heap.size) (ok' := fun q => ¬ Z4 q) (fun q h => ⟨(hown q h).1, H56.out.1 q h.symm⟩))
    have H67 := Lib.hid (Kd.R_mono (Kd.R_kept (Kd.R_tight rfl H66.out) hk (fun q h1 h2 => HNEj.out q h2 h1)) (ok' := fun q => ¬ Z4 q) (fun q h => H66.out.1 q h.symm))
    clear hr hb hk hown HNG KP6 KR6 KQ6 HBd6 HB6 HK6 HS6 H76 H86 H56 H66
    have H57 := HRN; clear HRN
    obtain ⟨x0, x1, x2, _, _, _⟩ := cells3 KQ7.out
    obtain ⟨p0, p1, p2, _, _, _⟩ := cells3 KP7.out
    go_wp2_with (fail)
    clear x0 x1 x2 p0 p1 p2
    (with_reducible refine (Pr.glush_set_join.calls k (fun q => some q = (Value.slice B6 ol.length d6).ownBlock) (.slice B6 ol.length d6) ol A8 c8 p.lst l w0 w7 HB7.out (Kd.R_mono (Kd.R_tight rfl (Kd.R_lower H67.out HBS.out)) (fun _ h => h)) ?hr1 (Kd.V_at H87.out).2.1 HJ2.out).mono ?_)
    case hr1 => exact fun W_ hk => Kd.F_now (Kd.V_at (Kd.V_kept H87.out hk (fun q h1 h2 => Nat.lt_irrefl q (Nat.lt_of_lt_of_le (HOW6.out q h2).2 h1)))).2.2
    rintro e w8 ⟨rfl, hr, hb, hk⟩
    have hown : ∀ q, some q = (Value.slice B6 ol.length d6).ownBlock → w.heap.size ≤ q ∧ q < w3.heap.size := HOW6.out
    have HNG : ∀ b, w3.heap.size ≤ b → ¬ some b = (Value.slice B6 ol.length d6).ownBlock := fun b hb2 h => Nat.lt_irrefl b (Nat.lt_of_lt_of_le (hown b h).2 hb2)
    have KP8 := Lib.hid (blk_kept KP7.out hk (fun h => Kd.R_ne H67.out KP7.out (by decide) h)); have KR8 := Lib.hid (blk_kept KR7.out hk (fun h => Kd.R_ne H67.out KR7.out (by decide) h)); have KQ8 := Lib.hid (blk_kept KQ7.out hk (fun h => Kd.R_ne H67.out KQ7.out (by decide) h))
    have HBd8 := Lib.hid (HBd7.out.kept hk (fun q h1 h2 => H67.out.1 q h2.symm h1)); have HB8 := Lib.hid hb; have HK8 := Lib.hid (HK7.out.then_ hk (fun q h => .inr (hown q h).1)); have HS8 := Lib.hid (Nat.le_trans HS7.out hk.1)
    have H78 := Lib.hid (Kd.V_kept H77.out hk (fun q h1 h2 => HNG q h1 h2)); have H88 := Lib.hid (Kd.V_kept H87.out hk (fun q h1 h2 => HNG q h1 h2))
    have HLEN6 := Lib.hid (Kd.R_reads' hr).1
    have HRN := Lib.hid (R_up2 (Kd.R_tight rfl hr) (b' := w.heap.size) (ok' := fun q => ¬ Z4 q) (fun q h => ⟨(hown q h).1, H67.out.1 q h.symm⟩))
    have H58 := Lib.hid (Kd.R_mono (Kd.R_kept (Kd.R_tight rfl H57.out) hk (fun q h1 h2 => HNEj.out q h1 h2)) (ok' := fun q => ¬ Z4 q) (fun q h => H57.out.1 q h.symm))
    clear hr hb hk hown HNG KP7 KR7 KQ7 HBd7 HB7 HK7 HS7 H77 H87 H57 H67
    have H68 := HRN; clear HRN
    have e5 : of_.length = f.length := HLEN5.out
    have e6 : ol.length = l.length := HLEN6.out
    have KPZ : Hid (w8.heap[gp]? = some (.cells #[.bool (true || p.null), .slice B5 f.length d5, .slice B6 l.length d6] 54 (0, 0))) := Lib.hid (by have := KP8.out; rw [e5, e6] at this; exact this)
    have H5Z := Lib.hid (R_len e5 H58.out); have H6Z := Lib.hid (R_len e6 H68.out)
    have HNEZ : Hid (∀ q, some q = (Value.slice B5 f.length d5).ownBlock → some q = (Value.slice B6 l.length d6).ownBlock → False) := Lib.hid (fun q h1 h2 => HNEj.out q (by rw [e5]; exact h1) (by rw [e6]; exact h2))
    clear KP8 H58 H68 e5 e6
    have hw : wrap64 (x + 1) = x + 1 := by have h1 := HLT.out; have h2 := HLEN.out; have h3 := HX.out.1; unfold wrap64; omega
    go_wp2_with (fail)
    go_roundg (f4.length - (x + 1).toNat)
    case measure => have h1 := HLT.out; have h2 := HQ.out; have h3 := HX.out.1; omega
    case rel => exact ⟨x + 1, Z4, (true || p.null, f, l), p.syms, p.rows, B5, d5, B6, d6, by rw [hw], Lib.hid ⟨by have := HX.out.1; omega, by have := HLT.out; omega⟩, Lib.hid rfl, HRE, HBd8, HZI4, HB8, HK8, KPZ, KR8, HS8, H5Z, H6Z, HNEZ⟩
  ·have hx : x = f4.length := by have := HX.out.2; omega
   subst hx
   have hm := HM.out
   rw [Int.toNat_natCast, List.drop_length] at hm
   unfold altKids at hm
   obtain rfl := Option.some.inj hm
   clear hm HM
   have b1 : decide ((f4.length : Int) < (f4.length : Int)) = false := decide_eq_false hlt
   obtain ⟨p0, p1, p2, _, _, _⟩ := cells3 KPj.out
   obtain ⟨r0, r1, r2, u0, u1, u2⟩ := cells3 KRj.out
   go_wp2_with (fail)
   refine bodyPost_ret (results_cell_row rfl _ _ (w.heap.size + 1) 54 #[.bool o.1, .slice B5 o.2.1.length d5, .slice B6 o.2.2.length d6] (0, 0) _ rfl (st3_blk KRj.out) Tryd.underlying54 rfl (by kernel_rfl)) rfl ?_
   have hs := st3_self (w := wr) (g := w.heap.size + 1) (.bool o.1) (.slice B5 o.2.1.length d5) (.slice B6 o.2.2.length d6)
   have HNR : Hid (¬ Z' (w.heap.size + 1)) := Lib.hid (fun hz => (HZj.out _ hz).elim (HNZ.out _ (Nat.le_add_right _ 1)) (fun h => Nat.lt_irrefl _ (Nat.lt_of_lt_of_le HGR2.out h)))
   have V5 := Kd.R_mono (Kd.R_kept (Kd.R_types H5j.out KRj.out (by decide)) hs (fun k h1 h2 => h1.2 h2)) (ok' := fun k => ¬ Z' k) (fun k h => h.1)
   have V6 := Kd.R_mono (Kd.R_kept (Kd.R_types H6j.out KRj.out (by decide)) hs (fun k h1 h2 => h1.2 h2)) (ok' := fun k => ¬ Z' k) (fun k h => h.1)
   exact ⟨Z', B5, d5, B6, d6, rfl, V5, V6, HBdj.out.kept hs (fun q h1 h2 => HNR.out (h2 ▸ h1)), fun q h => (HZj.out q h).elim .inl (fun h4 => .inr (Nat.le_trans HW2.out h4)), st3_below HBj.out (Nat.le_trans HBS.out (Nat.le_add_right _ 1)) _ _ _, st3_kept HKj.out (.inr (Nat.le_add_right _ 1)) _ _ _⟩
end Go.Proofs.YthocjdlcopmhiaaDoor.G
namespace Go.Proofs.YthocjdlcopmhiaaDoor.G
open Go.RowKit Go.Proofs.YthocjdlcopmhiaaDoorW.PrintWords Go.Proofs.YthocjdlcopmhiaaDoorW.PrintLast Go.Proofs.YthocjdlcopmhiaaDoorW.PrintMore
attribute [local go_sem] max2_int min2_int max_two min_two max_three min_three max_four min_four
set_option linter.unusedVariables false
set_option linter.unusedSimpArgs false
abbrev KS : Kd (List Int) := Kd.slice 77 KU
abbrev kP : Kd Pt := Kd.pair Kd.bool (Kd.pair KS KS)
theorem kP_sz : kP.sz = 3 := rfl
theorem kP_mkF {W : World} {ok : Nat → Prop} {x : Pt} {A5 A6 : Option Addr} {c5 c6 b5 b6 : Nat} (h5 : Kd.V KU 77 W b5 ok (.slice A5 x.2.1.length c5) x.2.1) (h6 : Kd.V KU 77 W b6 ok (.slice A6 x.2.2.length c6) x.2.2) : Kd.FK kP W ok x [.bool x.1, .slice A5 x.2.1.length c5, .slice A6 x.2.2.length c6] := by
 intro W' hW
 obtain ⟨_, l5, f5⟩ := Kd.V_at h5
 obtain ⟨_, l6, f6⟩ := Kd.V_at h6
 exact ⟨[.bool x.1], [.slice A5 x.2.1.length c5, .slice A6 x.2.2.length c6], rfl, rfl, [.slice A5 x.2.1.length c5], [.slice A6 x.2.2.length c6], rfl, ⟨A5, c5, rfl, l5, f5 W' hW⟩, ⟨A6, c6, rfl, l6, f6 W' hW⟩⟩
theorem kP_openF {W : World} {ok : Nat → Prop} {x : Pt} {cs : List Value} (h : Kd.FK kP W ok x cs) : ∃ A5 c5 A6 c6, cs = [.bool x.1, .slice A5 x.2.1.length c5, .slice A6 x.2.2.length c6] ∧ Kd.V KU 77 W 0 ok (.slice A5 x.2.1.length c5) x.2.1 ∧ Kd.V KU 77 W 0 ok (.slice A6 x.2.2.length c6) x.2.2 := by
 obtain ⟨c0, c1, rfl, rfl, c2, c3, rfl, ⟨A5, d5, rfl, l5, _⟩, ⟨A6, d6, rfl, l6, _⟩⟩ := Kd.FK_now h
 refine ⟨A5, d5, A6, d6, rfl, Kd.V_mk l5 (fun W' hW => ?_), Kd.V_mk l6 (fun W' hW => ?_)⟩
 ·obtain ⟨c0, c1, e, e0, c2, c3, e1, ⟨A5', d5', e5, _, f5⟩, ⟨A6', d6', e6, _, f6⟩⟩ := h W' hW
  rw [e0, e1, e5, e6] at e
  simp only [List.cons_append, List.nil_append, List.cons.injEq, Value.slice.injEq, and_true, true_and] at e
  rw [e.1.1]; exact f5
 ·obtain ⟨c0, c1, e, e0, c2, c3, e1, ⟨A5', d5', e5, _, f5⟩, ⟨A6', d6', e6, _, f6⟩⟩ := h W' hW
  rw [e0, e1, e5, e6] at e
  simp only [List.cons_append, List.nil_append, List.cons.injEq, Value.slice.injEq, and_true, true_and] at e
  rw [e.2.1]; exact f6
theorem parts_at {W : World} {ok : Nat → Prop} {A : Option Addr} {n : Nat} {xs : List Pt} (h : Kd.F kP W ok A n xs) (z : Pt) (i : Int) (h0 : 0 ≤ i) (h1 : i < n) :
  ∃ ad A5 c5 A6 c6, A = some ad ∧ W.cell? (ad.add (i.toNat * 3)) = some (.bool (xs.getD i.toNat z).1) ∧ W.cell? ⟨(ad.add (i.toNat * 3)).block, (ad.add (i.toNat * 3)).off + 1, none⟩ = some (.slice A5 (xs.getD i.toNat z).2.1.length c5) ∧ W.cell? ⟨(ad.add (i.toNat * 3)).block, (ad.add (i.toNat * 3)).off + 2, none⟩ = some (.slice A6 (xs.getD i.toNat z).2.2.length c6) ∧
   Kd.V KU 77 W 0 ok (.slice A5 (xs.getD i.toNat z).2.1.length c5) (xs.getD i.toNat z).2.1 ∧ Kd.V KU 77 W 0 ok (.slice A6 (xs.getD i.toNat z).2.2.length c6) (xs.getD i.toNat z).2.2 ∧ ok ad.block := by
 obtain ⟨ad, c, rfl, hcl, hF, hcc, hok⟩ := Kd.F_get h z i h0 h1
 obtain ⟨A5, c5, A6, c6, rfl, h5, h6⟩ := kP_openF hF
 refine ⟨ad, A5, c5, A6, c6, rfl, ?_, ?_, ?_, h5, h6, hok (by decide)⟩
 ·have := hcc 0 _ rfl; rw [kP_sz, Nat.add_zero] at this; exact this
 ·rw [← add_field _ _ 1 (by omega)]; exact hcc 1 _ rfl
 ·rw [← add_field _ _ 2 (by omega)]; exact hcc 2 _ rfl
theorem V_len2 {w : World} {e b n c : Nat} {ok : Nat → Prop} {A : Option Addr} {xs : List Pt} (h : xs.length = n) (hV : Kd.V kP e w b ok (.slice A n c) xs) : Kd.V kP e w b ok (.slice A xs.length c) xs := h ▸ hV
theorem pt_drop (l : List Pt) (x : Int) (h0 : 0 ≤ x) (h1 : x < l.length) : l.drop x.toNat = l.getD x.toNat (false, [], []) :: l.drop (x + 1).toNat := by
 have hx : x.toNat < l.length := by omega
 have e1 : (x + 1).toNat = x.toNat + 1 := by omega
 rw [e1, List.drop_eq_getElem_cons hx, List.getD_eq_getElem?_getD, List.getElem?_eq_getElem hx]
 rfl
set_option maxHeartbeats 8000000 in
set_option maxRecDepth 100000 in
theorem rep_zero (k : Nat) (n : Int) (hn0 : 0 ≤ n) (hn1 : n ≤ 512) (pf : PFn) (hpf : PartOk 19 n pf) (w0 w : World) (g : Nat) (Z : Nat → Prop) (syms : List Int) (rows : List (List Int)) (f0 f1 f2 f3 : Int) (f4 : List Pr.S24) (A : Option Addr) (c : Nat)
  (hb : Bd w0 w g Z n syms rows) (htab : HTab w0) (hB : Below w0.heap.size w0 w) (hC : Kd.C Pr.k24 w0 A f4.length f4) (hc : f4.length ≤ c) (hp : 0 < f4.length) (ht : Pr.glush_times.f f0 f1 f2 f3 f4 = some 0) :
  Calls Tryd.prog 33 #[.pointer (some ⟨g, 0, none⟩), EV ⟨f0, f1, f2, f3, f4⟩ A c] w (PartPost w0 w g Z n (outPt (fresh0 n true) syms rows)) := by
 have hu54 := Tryd.underlying54; have hu24 := Tryd.underlying24
 unfold EV
 dsimp only
 have HPF := Lib.hid hpf; have HT := Lib.hid htab; clear hpf htab
 have HBd := Lib.hid hb; have HB := Lib.hid hB; have HC := Lib.hid hC; have HT0 := Lib.hid ht; have Hc := Lib.hid hc; have HP0 := Lib.hid hp
 clear hb hB hC ht hc hp
 go_enter Tryd.func33, Tryd.ntmps33
 go_upto_region 1 with (fail)
 have HB2 := below_alloc (below_alloc (below_alloc (Below.refl w.heap.size w) (.cells #[.pointer (some ⟨g, 0, none⟩)] 47)) (.cells #[.int .i64 f0, .int .i64 f1, .int .i64 f2, .int .i64 f3, .slice A f4.length c] 24)) (.cells #[.bool false, .slice none 0 0, .slice none 0 0] 54)
 have KB : (((w.alloc (.cells #[.pointer (some ⟨g, 0, none⟩)] 47)).alloc (.cells #[.int .i64 f0, .int .i64 f1, .int .i64 f2, .int .i64 f3, .slice A f4.length c] 24)).alloc (.cells #[.bool false, .slice none 0 0, .slice none 0 0] 54)).heap[w.heap.size]? = some (.cells #[.pointer (some ⟨g, 0, none⟩)] 47 (0, 0)) := blk_alloc (blk_alloc (blk_new w _) _) _
 have KE : (((w.alloc (.cells #[.pointer (some ⟨g, 0, none⟩)] 47)).alloc (.cells #[.int .i64 f0, .int .i64 f1, .int .i64 f2, .int .i64 f3, .slice A f4.length c] 24)).alloc (.cells #[.bool false, .slice none 0 0, .slice none 0 0] 54)).heap[w.heap.size + 1]? = some (.cells #[.int .i64 f0, .int .i64 f1, .int .i64 f2, .int .i64 f3, .slice A f4.length c] 24 (0, 0)) := by
  have := blk_alloc (blk_new (w.alloc (.cells #[.pointer (some ⟨g, 0, none⟩)] 47)) (.cells #[.int .i64 f0, .int .i64 f1, .int .i64 f2, .int .i64 f3, .slice A f4.length c] 24)) (.cells #[.bool false, .slice none 0 0, .slice none 0 0] 54); simpa using this
 have KR : (((w.alloc (.cells #[.pointer (some ⟨g, 0, none⟩)] 47)).alloc (.cells #[.int .i64 f0, .int .i64 f1, .int .i64 f2, .int .i64 f3, .slice A f4.length c] 24)).alloc (.cells #[.bool false, .slice none 0 0, .slice none 0 0] 54)).heap[w.heap.size + 2]? = some (.cells #[.bool false, .slice none 0 0, .slice none 0 0] 54 (0, 0)) := by
  have := blk_new ((w.alloc (.cells #[.pointer (some ⟨g, 0, none⟩)] 47)).alloc (.cells #[.int .i64 f0, .int .i64 f1, .int .i64 f2, .int .i64 f3, .slice A f4.length c] 24)) (.cells #[.bool false, .slice none 0 0, .slice none 0 0] 54); simpa using this
 generalize ((w.alloc (.cells #[.pointer (some ⟨g, 0, none⟩)] 47)).alloc (.cells #[.int .i64 f0, .int .i64 f1, .int .i64 f2, .int .i64 f3, .slice A f4.length c] 24)).alloc (.cells #[.bool false, .slice none 0 0, .slice none 0 0] 54) = wA at HB2 KB KE KR ⊢
 have HBA := Lib.hid (below_step HB.out HB2); have HBdA := Lib.hid (HBd.out.below HB2); have HW2 := Lib.hid HB2; have HBS := Lib.hid HB.out.size; have HNZ := Lib.hid HBd.out.new
 have KBA := Lib.hid KB; have KEA := Lib.hid KE; have KRA := Lib.hid KR
 clear KB KE KR HB2 HB HBd
 obtain ⟨ad, A4, c4, eA, y0, y1, y2, y3, y4, hc4, hC4⟩ := Pr.at_T24 HC.out 0 (Int.le_refl _) (by have := HP0.out; omega)
 subst eA
 have q0 := cell_below y0 HBA.out; have q1 := cell_below y1 HBA.out; have q2 := cell_below y2 HBA.out; have q3 := cell_below y3 HBA.out; have q4 := cell_below y4 HBA.out
 clear y0 y1 y2 y3 y4
 generalize Pr.rd_T24 f4 0 = y at q0 q1 q2 q3 q4 hc4 hC4
 have HC4 := Lib.hid hC4; have Hc4 := Lib.hid hc4; clear hC4 hc4
 have e4 : wA.cell? ⟨w.heap.size + 1, 4, none⟩ = some (.slice (some ad) f4.length c) := (blk_cell KEA.out 4).trans rfl
 have hp1 := HP0.out
 simp only [Int.toNat_zero, Nat.zero_mul, Nat.zero_add] at q0 q1 q2 q3 q4
 have ea0 : ad.add 0 = ad := by cases ad; simp [Addr.add]
 rw [ea0] at q0 q1 q2 q3 q4
 go_upto_region 2 with (fail)
 clear q0 q1 q2 q3 q4 e4 hp1 ea0
 have hby := below_alloc (Below.refl wA.heap.size wA) (.cells #[.int .i64 y.f0, .int .i64 y.f1, .int .i64 y.f2, .int .i64 y.f3, .slice A4 y.f4.length c4] 24)
 have KY : (wA.alloc (.cells #[.int .i64 y.f0, .int .i64 y.f1, .int .i64 y.f2, .int .i64 y.f3, .slice A4 y.f4.length c4] 24)).heap[wA.heap.size]? = some (.cells #[.int .i64 y.f0, .int .i64 y.f1, .int .i64 y.f2, .int .i64 y.f3, .slice A4 y.f4.length c4] 24 (0, 0)) := blk_new wA _
 have HGK := Lib.hid (HW2.out.size); have HBW3 := Lib.hid (Nat.le_refl w.heap.size); have HGR := Lib.hid (blk_lt KRA.out)
 have KBB := Lib.hid (blk_below KBA.out hby); have KEB := Lib.hid (blk_below KEA.out hby); have KRB := Lib.hid (blk_below KRA.out hby); have HBB := Lib.hid (below_step HBA.out hby); have HBdB := Lib.hid (HBdA.out.below hby); have HWB := Lib.hid (below_step HW2.out hby)
 clear hby KBA KEA KRA HBA HBdA HW2
 generalize wA.alloc (.cells #[.int .i64 y.f0, .int .i64 y.f1, .int .i64 y.f2, .int .i64 y.f3, .slice A4 y.f4.length c4] 24) = wB at KY KBB KEB KRB HBB HBdB HWB ⊢
 generalize wA.heap.size = gkid at KY HGK HGR ⊢
 have KYB := Lib.hid KY; clear KY
 have e0 : wB.cell? ⟨w.heap.size + 1, 0, none⟩ = some (.int .i64 f0) := (blk_cell KEB.out 0).trans rfl
 have e1 : wB.cell? ⟨w.heap.size + 1, 1, none⟩ = some (.int .i64 f1) := (blk_cell KEB.out 1).trans rfl
 have e2 : wB.cell? ⟨w.heap.size + 1, 2, none⟩ = some (.int .i64 f2) := (blk_cell KEB.out 2).trans rfl
 have e3 : wB.cell? ⟨w.heap.size + 1, 3, none⟩ = some (.int .i64 f3) := (blk_cell KEB.out 3).trans rfl
 have e4 : wB.cell? ⟨w.heap.size + 1, 4, none⟩ = some (.slice (some ad) f4.length c) := (blk_cell KEB.out 4).trans rfl
 go_wp2_with (fail)
 clear e0 e1 e2 e3 e4
 refine (Pr.glush_times.calls f0 f1 f2 f3 (some ad) c f4 0 wB (Kd.C_below HC.out HBB.out) Hc.out HT0.out).mono ?_
 rintro e w2 ⟨rfl, hb2⟩
 have KB2 := Lib.hid (blk_below KBB.out hb2); have KE2 := Lib.hid (blk_below KEB.out hb2); have KR2 := Lib.hid (blk_below KRB.out hb2); have KY2 := Lib.hid (blk_below KYB.out hb2); have HB2 := Lib.hid (below_step HBB.out hb2); have HBd2 := Lib.hid (HBdB.out.below hb2); have HW2 := Lib.hid (below_step HWB.out hb2)
 clear hb2 KBB KEB KRB KYB HBB HBdB HWB
 have bp2 : w2.cell? ⟨w.heap.size, 0, none⟩ = some (.pointer (some ⟨g, 0, none⟩)) := (blk_cell KB2.out 0).trans rfl
 go_wp2_with (fail)
 clear bp2
 refine (none_calls g n true w2 (by obtain ⟨⟨v1, v2, hbk, _⟩, _⟩ := HBd2.out; exact (blk_cell hbk 0).trans rfl) hn0 hn1).mono ?_
 rintro e w3 ⟨v5, v6, rfl, h5, h6, hb1⟩
 obtain ⟨A5, c5, rfl⟩ := Kd.R_slice h5
 obtain ⟨A6, c6, rfl⟩ := Kd.R_slice h6
 have KR3 := Lib.hid (blk_below KR2.out hb1); have HB3 := Lib.hid (below_step HB2.out hb1); have HBd3 := Lib.hid (HBd2.out.below hb1); have HW3 := Lib.hid (below_step HW2.out hb1)
 have H5 := Lib.hid (Kd.R_lower h5 HW2.out.size); have H6 := Lib.hid (Kd.R_lower h6 HW2.out.size)
 clear h5 h6 hb1
 obtain ⟨r0, r1, r2, u0, u1, u2⟩ := cells3 KR3.out
 go_wp2_with (fail)
 refine bodyPost_ret (results_cell_row rfl _ _ (w.heap.size + 2) 54 #[.bool true, .slice A5 (freshF n).length c5, .slice A6 (freshF n).length c6] (0, 0) _ rfl (st3_blk KR3.out) Tryd.underlying54 rfl (by kernel_rfl)) rfl ?_
 have hs := st3_self (w := w3) (g := w.heap.size + 2) (.bool true) (.slice A5 (freshF n).length c5) (.slice A6 (freshF n).length c6)
 exact ⟨Z, A5, c5, A6, c6, rfl, Kd.R_mono (Kd.R_kept (Kd.R_types (Kd.R_bound H5.out) KR3.out (by decide)) hs (fun q h1 h2 => h1.2 h2)) (fun q h => HNZ.out q h.1.2.1), Kd.R_mono (Kd.R_kept (Kd.R_types (Kd.R_bound H6.out) KR3.out (by decide)) hs (fun q h1 h2 => h1.2 h2)) (fun q h => HNZ.out q h.1.2.1), HBd3.out.kept hs (fun q h1 h2 => HNZ.out _ (h2 ▸ Nat.le_add_right _ 2) h1), fun q h => .inl h, st3_below HB3.out (Nat.le_trans HBS.out (Nat.le_add_right _ 2)) _ _ _, st3_kept (Kept.of_below HW3.out Z) (.inr (Nat.le_add_right _ 2)) _ _ _⟩
set_option maxHeartbeats 8000000 in
set_option maxRecDepth 100000 in
theorem rep_none (k : Nat) (n : Int) (hn0 : 0 ≤ n) (hn1 : n ≤ 512) (pf : PFn) (hpf : PartOk 19 n pf) (w0 w : World) (g : Nat) (Z : Nat → Prop) (syms : List Int) (rows : List (List Int)) (f0 f1 f2 f3 : Int) (f4 : List Pr.S24) (A : Option Addr) (c : Nat) (t : Int) (p : PR)
  (hb : Bd w0 w g Z n syms rows) (htab : HTab w0) (hB : Below w0.heap.size w0 w) (hC : Kd.C Pr.k24 w0 A f4.length f4) (hc : f4.length ≤ c) (hp : 0 < f4.length) (ht : Pr.glush_times.f f0 f1 f2 f3 f4 = some t) (ht0 : t ≠ 0) (hpo : Pr.glush_Positions.f k (Pr.rd_T24 f4 0).f0 (Pr.rd_T24 f4 0).f1 (Pr.rd_T24 f4 0).f2 (Pr.rd_T24 f4 0).f3 (Pr.rd_T24 f4 0).f4 1 = some 0) (hpp : pf (Pr.rd_T24 f4 0) syms rows = some p) :
  Calls Tryd.prog 33 #[.pointer (some ⟨g, 0, none⟩), EV ⟨f0, f1, f2, f3, f4⟩ A c] w (PartPost w0 w g Z n { p with null := p.null || (f2 == 0) }) := by
 have hu54 := Tryd.underlying54; have hu24 := Tryd.underlying24
 unfold EV
 dsimp only
 have HPO0 := Lib.hid hpo; have HPP := Lib.hid hpp; clear hpo hpp
 have bt : ((t == 0) : Bool) = false := by simpa using ht0
 have HPF := Lib.hid hpf; have HT := Lib.hid htab; clear hpf htab
 have HBd := Lib.hid hb; have HB := Lib.hid hB; have HC := Lib.hid hC; have HT0 := Lib.hid ht; have Hc := Lib.hid hc; have HP0 := Lib.hid hp
 clear hb hB hC ht hc hp
 go_enter Tryd.func33, Tryd.ntmps33
 go_upto_region 1 with (fail)
 have HB2 := below_alloc (below_alloc (below_alloc (Below.refl w.heap.size w) (.cells #[.pointer (some ⟨g, 0, none⟩)] 47)) (.cells #[.int .i64 f0, .int .i64 f1, .int .i64 f2, .int .i64 f3, .slice A f4.length c] 24)) (.cells #[.bool false, .slice none 0 0, .slice none 0 0] 54)
 have KB : (((w.alloc (.cells #[.pointer (some ⟨g, 0, none⟩)] 47)).alloc (.cells #[.int .i64 f0, .int .i64 f1, .int .i64 f2, .int .i64 f3, .slice A f4.length c] 24)).alloc (.cells #[.bool false, .slice none 0 0, .slice none 0 0] 54)).heap[w.heap.size]? = some (.cells #[.pointer (some ⟨g, 0, none⟩)] 47 (0, 0)) := blk_alloc (blk_alloc (blk_new w _) _) _
 have KE : (((w.alloc (.cells #[.pointer (some ⟨g, 0, none⟩)] 47)).alloc (.cells #[.int .i64 f0, .int .i64 f1, .int .i64 f2, .int .i64 f3, .slice A f4.length c] 24)).alloc (.cells #[.bool false, .slice none 0 0, .slice none 0 0] 54)).heap[w.heap.size + 1]? = some (.cells #[.int .i64 f0, .int .i64 f1, .int .i64 f2, .int .i64 f3, .slice A f4.length c] 24 (0, 0)) := by
  have := blk_alloc (blk_new (w.alloc (.cells #[.pointer (some ⟨g, 0, none⟩)] 47)) (.cells #[.int .i64 f0, .int .i64 f1, .int .i64 f2, .int .i64 f3, .slice A f4.length c] 24)) (.cells #[.bool false, .slice none 0 0, .slice none 0 0] 54); simpa using this
 have KR : (((w.alloc (.cells #[.pointer (some ⟨g, 0, none⟩)] 47)).alloc (.cells #[.int .i64 f0, .int .i64 f1, .int .i64 f2, .int .i64 f3, .slice A f4.length c] 24)).alloc (.cells #[.bool false, .slice none 0 0, .slice none 0 0] 54)).heap[w.heap.size + 2]? = some (.cells #[.bool false, .slice none 0 0, .slice none 0 0] 54 (0, 0)) := by
  have := blk_new ((w.alloc (.cells #[.pointer (some ⟨g, 0, none⟩)] 47)).alloc (.cells #[.int .i64 f0, .int .i64 f1, .int .i64 f2, .int .i64 f3, .slice A f4.length c] 24)) (.cells #[.bool false, .slice none 0 0, .slice none 0 0] 54); simpa using this
 generalize ((w.alloc (.cells #[.pointer (some ⟨g, 0, none⟩)] 47)).alloc (.cells #[.int .i64 f0, .int .i64 f1, .int .i64 f2, .int .i64 f3, .slice A f4.length c] 24)).alloc (.cells #[.bool false, .slice none 0 0, .slice none 0 0] 54) = wA at HB2 KB KE KR ⊢
 have HBA := Lib.hid (below_step HB.out HB2); have HBdA := Lib.hid (HBd.out.below HB2); have HW2 := Lib.hid HB2; have HBS := Lib.hid HB.out.size; have HNZ := Lib.hid HBd.out.new
 have KBA := Lib.hid KB; have KEA := Lib.hid KE; have KRA := Lib.hid KR
 clear KB KE KR HB2 HB HBd
 obtain ⟨ad, A4, c4, eA, y0, y1, y2, y3, y4, hc4, hC4⟩ := Pr.at_T24 HC.out 0 (Int.le_refl _) (by have := HP0.out; omega)
 subst eA
 have q0 := cell_below y0 HBA.out; have q1 := cell_below y1 HBA.out; have q2 := cell_below y2 HBA.out; have q3 := cell_below y3 HBA.out; have q4 := cell_below y4 HBA.out
 clear y0 y1 y2 y3 y4
 have hpo := HPO0.out; have hpp := HPP.out; clear HPO0 HPP
 generalize Pr.rd_T24 f4 0 = y at q0 q1 q2 q3 q4 hc4 hC4 hpo hpp
 have HPO := Lib.hid hpo; have HPP := Lib.hid hpp; clear hpo hpp
 have HC4 := Lib.hid hC4; have Hc4 := Lib.hid hc4; clear hC4 hc4
 have e4 : wA.cell? ⟨w.heap.size + 1, 4, none⟩ = some (.slice (some ad) f4.length c) := (blk_cell KEA.out 4).trans rfl
 have hp1 := HP0.out
 simp only [Int.toNat_zero, Nat.zero_mul, Nat.zero_add] at q0 q1 q2 q3 q4
 have ea0 : ad.add 0 = ad := by cases ad; simp [Addr.add]
 rw [ea0] at q0 q1 q2 q3 q4
 go_upto_region 2 with (fail)
 clear q0 q1 q2 q3 q4 e4 hp1 ea0
 have hby := below_alloc (Below.refl wA.heap.size wA) (.cells #[.int .i64 y.f0, .int .i64 y.f1, .int .i64 y.f2, .int .i64 y.f3, .slice A4 y.f4.length c4] 24)
 have KY : (wA.alloc (.cells #[.int .i64 y.f0, .int .i64 y.f1, .int .i64 y.f2, .int .i64 y.f3, .slice A4 y.f4.length c4] 24)).heap[wA.heap.size]? = some (.cells #[.int .i64 y.f0, .int .i64 y.f1, .int .i64 y.f2, .int .i64 y.f3, .slice A4 y.f4.length c4] 24 (0, 0)) := blk_new wA _
 have HGK := Lib.hid (HW2.out.size); have HBW3 := Lib.hid (Nat.le_refl w.heap.size); have HGR := Lib.hid (blk_lt KRA.out)
 have KBB := Lib.hid (blk_below KBA.out hby); have KEB := Lib.hid (blk_below KEA.out hby); have KRB := Lib.hid (blk_below KRA.out hby); have HBB := Lib.hid (below_step HBA.out hby); have HBdB := Lib.hid (HBdA.out.below hby); have HWB := Lib.hid (below_step HW2.out hby)
 clear hby KBA KEA KRA HBA HBdA HW2
 generalize wA.alloc (.cells #[.int .i64 y.f0, .int .i64 y.f1, .int .i64 y.f2, .int .i64 y.f3, .slice A4 y.f4.length c4] 24) = wB at KY KBB KEB KRB HBB HBdB HWB ⊢
 generalize wA.heap.size = gkid at KY HGK HGR ⊢
 have KYB := Lib.hid KY; clear KY
 have e0 : wB.cell? ⟨w.heap.size + 1, 0, none⟩ = some (.int .i64 f0) := (blk_cell KEB.out 0).trans rfl
 have e1 : wB.cell? ⟨w.heap.size + 1, 1, none⟩ = some (.int .i64 f1) := (blk_cell KEB.out 1).trans rfl
 have e2 : wB.cell? ⟨w.heap.size + 1, 2, none⟩ = some (.int .i64 f2) := (blk_cell KEB.out 2).trans rfl
 have e3 : wB.cell? ⟨w.heap.size + 1, 3, none⟩ = some (.int .i64 f3) := (blk_cell KEB.out 3).trans rfl
 have e4 : wB.cell? ⟨w.heap.size + 1, 4, none⟩ = some (.slice (some ad) f4.length c) := (blk_cell KEB.out 4).trans rfl
 go_wp2_with (fail)
 clear e0 e1 e2 e3 e4
 refine (Pr.glush_times.calls f0 f1 f2 f3 (some ad) c f4 t wB (Kd.C_below HC.out HBB.out) Hc.out HT0.out).mono ?_
 rintro e w2 ⟨rfl, hb2⟩
 have KB2 := Lib.hid (blk_below KBB.out hb2); have KE2 := Lib.hid (blk_below KEB.out hb2); have KR2 := Lib.hid (blk_below KRB.out hb2); have KY2 := Lib.hid (blk_below KYB.out hb2); have HB2 := Lib.hid (below_step HBB.out hb2); have HBd2 := Lib.hid (HBdB.out.below hb2); have HW2 := Lib.hid (below_step HWB.out hb2)
 clear hb2 KBB KEB KRB KYB HBB HBdB HWB
 have bp2 : w2.cell? ⟨w.heap.size, 0, none⟩ = some (.pointer (some ⟨g, 0, none⟩)) := (blk_cell KB2.out 0).trans rfl
 have y0 : w2.cell? ⟨gkid, 0, none⟩ = some (.int .i64 y.f0) := (blk_cell KY2.out 0).trans rfl
 have y1 : w2.cell? ⟨gkid, 1, none⟩ = some (.int .i64 y.f1) := (blk_cell KY2.out 1).trans rfl
 have y2 : w2.cell? ⟨gkid, 2, none⟩ = some (.int .i64 y.f2) := (blk_cell KY2.out 2).trans rfl
 have y3 : w2.cell? ⟨gkid, 3, none⟩ = some (.int .i64 y.f3) := (blk_cell KY2.out 3).trans rfl
 have y4 : w2.cell? ⟨gkid, 4, none⟩ = some (.slice A4 y.f4.length c4) := (blk_cell KY2.out 4).trans rfl
 go_wp2_with (fail)
 clear y0 y1 y2 y3 y4 bp2
 refine (Pr.glush_Positions.calls k y.f0 y.f1 y.f2 y.f3 A4 c4 y.f4 1 0 w2 (Kd.C_below HC4.out HB2.out) Hc4.out HPO.out).mono ?_
 rintro e w3 ⟨rfl, hb2⟩
 have KB3 := Lib.hid (blk_below KB2.out hb2); have KE3 := Lib.hid (blk_below KE2.out hb2); have KR3 := Lib.hid (blk_below KR2.out hb2); have KY3 := Lib.hid (blk_below KY2.out hb2); have HB3 := Lib.hid (below_step HB2.out hb2); have HBd3 := Lib.hid (HBd2.out.below hb2); have HW3 := Lib.hid (below_step HW2.out hb2)
 clear hb2 KB2 KE2 KR2 KY2 HB2 HBd2 HW2
 have bp3 : w3.cell? ⟨w.heap.size, 0, none⟩ = some (.pointer (some ⟨g, 0, none⟩)) := (blk_cell KB3.out 0).trans rfl
 have y0 : w3.cell? ⟨gkid, 0, none⟩ = some (.int .i64 y.f0) := (blk_cell KY3.out 0).trans rfl
 have y1 : w3.cell? ⟨gkid, 1, none⟩ = some (.int .i64 y.f1) := (blk_cell KY3.out 1).trans rfl
 have y2 : w3.cell? ⟨gkid, 2, none⟩ = some (.int .i64 y.f2) := (blk_cell KY3.out 2).trans rfl
 have y3 : w3.cell? ⟨gkid, 3, none⟩ = some (.int .i64 y.f3) := (blk_cell KY3.out 3).trans rfl
 have y4 : w3.cell? ⟨gkid, 4, none⟩ = some (.slice A4 y.f4.length c4) := (blk_cell KY3.out 4).trans rfl
 go_wp2_with (fail)
 clear y0 y1 y2 y3 y4 bp3
 (with_reducible refine (HPF.out.call w0 w3 g Z syms rows y A4 c4 p HBd3.out HT.out HB3.out HC4.out Hc4.out HPP.out).mono ?_); rintro e w4 ⟨Z4, A7, c7, A8, c8, rfl, h7, h8, hbd, hzi, hbb, hkk⟩
 have HNZ3 := Lib.hid HBd3.out.new
 have KE4 := Lib.hid (blk_kept KE3.out hkk (HNZ.out _ (Nat.le_add_right _ 1))); have KR4 := Lib.hid (blk_kept KR3.out hkk (HNZ.out _ (Nat.le_add_right _ 2)))
 have HR3 := Lib.hid (blk_lt KR3.out)
 have HNR : Hid (¬ Z4 (w.heap.size + 2)) := Lib.hid (fun hz => (hzi _ hz).elim (HNZ.out _ (Nat.le_add_right _ 2)) (fun h => Nat.lt_irrefl _ (Nat.lt_of_lt_of_le HR3.out h)))
 have HBd4 := Lib.hid hbd; have HB4 := Lib.hid hbb; have HK4 := Lib.hid ((Kept.of_below HW3.out Z).then_ hkk (fun q h => .inl h)); have HZI := Lib.hid (fun q (h : Z4 q) => ((hzi q h).elim .inl (fun h4 => .inr (Nat.le_trans HW3.out.size h4)) : Z q ∨ w.heap.size ≤ q))
 have H7 := Lib.hid (Kd.R_lower h7 HW3.out.size); have H8 := Lib.hid (Kd.R_lower h8 HW3.out.size)
 clear hbd hzi hbb hkk h7 h8
 go_upto_region 7 with (fail)
 have hbq := below_alloc (Below.refl w4.heap.size w4) (.cells #[.bool p.null, .slice A7 p.fst.length c7, .slice A8 p.lst.length c8] 54)
 have KQ : (w4.alloc (.cells #[.bool p.null, .slice A7 p.fst.length c7, .slice A8 p.lst.length c8] 54)).heap[w4.heap.size]? = some (.cells #[.bool p.null, .slice A7 p.fst.length c7, .slice A8 p.lst.length c8] 54 (0, 0)) := blk_new w4 _
 have HBd5 := Lib.hid (HBd4.out.below hbq); have HB5 := Lib.hid (below_step HB4.out hbq); have HK5 := Lib.hid (HK4.out.below hbq); have KE5 := Lib.hid (blk_below KE4.out hbq); have KR5 := Lib.hid (blk_below KR4.out hbq); have H75 := Lib.hid (Kd.R_below H7.out hbq); have H85 := Lib.hid (Kd.R_below H8.out hbq)
 have HXE : Hid (¬ w.heap.size + 1 = w4.heap.size) := Lib.hid (fun h => Nat.lt_irrefl _ (h ▸ blk_lt KE4.out)); have HXR : Hid (¬ w.heap.size + 2 = w4.heap.size) := Lib.hid (fun h => Nat.lt_irrefl _ (h ▸ blk_lt KR4.out)); have HXW := Lib.hid (Nat.le_trans HBS.out HK4.out.1); have HXW2 := Lib.hid HK4.out.1; have HXZ := Lib.hid (HBd4.out.new _ (Nat.le_refl _))
 clear hbq HBd4 HB4 HK4 KE4 KR4 H7 H8
 generalize w4.alloc (.cells #[.bool p.null, .slice A7 p.fst.length c7, .slice A8 p.lst.length c8] 54) = w5 at KQ HBd5 HB5 HK5 KE5 KR5 H75 H85 ⊢
 generalize w4.heap.size = gx at KQ HXE HXR HXW HXW2 HXZ ⊢
 have KQ5 := Lib.hid KQ; clear KQ
 obtain ⟨x0, x1, x2, u0, u1, u2⟩ := cells3 KQ5.out
 have e2 : w5.cell? ⟨w.heap.size + 1, 2, none⟩ = some (.int .i64 f2) := (blk_cell KE5.out 2).trans rfl
 have hpn : ∀ b : Bool, b = p.null → Hid (b = p.null) := fun _ h => Lib.hid h
 obtain ⟨pn, pfst, plst, psy, prw⟩ := p
 cases pn
 case false =>
  go_upto_region 8 with (fail)
  clear x0 x1 x2 u0 u1 u2 e2
  have hs : Kept w5 (w5.setCell ⟨gx, 0, none⟩ (.bool (f2 == 0))) (fun q => q = gx) := Kept.setCell (S := fun q => q = gx) (Kept.refl w5 _) (p := ⟨gx, 0, none⟩) (.inl rfl) _
  have KP := blk_put KQ5.out 0 (.bool (f2 == 0)) rfl
  have HBd6 := Lib.hid (HBd5.out.kept hs (fun q h1 h2 => HXZ.out (h2 ▸ h1))); have HB6 := Lib.hid (HB5.out.setCell (p := ⟨gx, 0, none⟩) HXW.out (.bool (f2 == 0))); have HK6 := Lib.hid (HK5.out.setCell (p := ⟨gx, 0, none⟩) (.inr HXW2.out) (.bool (f2 == 0))); have KR6 := Lib.hid (blk_kept KR5.out hs HXR.out)
  have H76 := Lib.hid (Kd.R_kept (Kd.R_types H75.out KQ5.out (by decide)) hs (fun q h1 h2 => h1.2 h2)); have H86 := Lib.hid (Kd.R_kept (Kd.R_types H85.out KQ5.out (by decide)) hs (fun q h1 h2 => h1.2 h2))
  generalize w5.setCell ⟨gx, 0, none⟩ (.bool (f2 == 0)) = w6 at KP HBd6 HB6 HK6 KR6 H76 H86 ⊢
  obtain ⟨x0, x1, x2, _, _, _⟩ := cells3 KP
  obtain ⟨r0, r1, r2, v0, v1, v2⟩ := cells3 KR6.out
  go_wp2_with (fail)
  refine bodyPost_ret (results_cell_row rfl _ _ (w.heap.size + 2) 54 #[.bool (f2 == 0), .slice A7 pfst.length c7, .slice A8 plst.length c8] (0, 0) _ rfl (st3_blk KR6.out) Tryd.underlying54 rfl (by kernel_rfl)) rfl ?_
  have hs := st3_self (w := w6) (g := w.heap.size + 2) (.bool (f2 == 0)) (.slice A7 pfst.length c7) (.slice A8 plst.length c8)
  exact ⟨Z4, A7, c7, A8, c8, rfl, Kd.R_mono (Kd.R_kept (Kd.R_types H76.out KR6.out (by decide)) hs (fun q h1 h2 => h1.2 h2)) (fun q h => h.1.1), Kd.R_mono (Kd.R_kept (Kd.R_types H86.out KR6.out (by decide)) hs (fun q h1 h2 => h1.2 h2)) (fun q h => h.1.1), HBd6.out.kept hs (fun q h1 h2 => HNR.out (h2 ▸ h1)), HZI.out, st3_below HB6.out (Nat.le_trans HBS.out (Nat.le_add_right _ 2)) _ _ _, st3_kept HK6.out (.inr (Nat.le_add_right _ 2)) _ _ _⟩
 case true =>
  go_upto_region 8 with (fail)
  clear x0 x1 x2 u0 u1 u2 e2
  have hs : Kept w5 (w5.setCell ⟨gx, 0, none⟩ (.bool true)) (fun q => q = gx) := Kept.setCell (S := fun q => q = gx) (Kept.refl w5 _) (p := ⟨gx, 0, none⟩) (.inl rfl) _
  have KP := blk_put KQ5.out 0 (.bool true) rfl
  have HBd6 := Lib.hid (HBd5.out.kept hs (fun q h1 h2 => HXZ.out (h2 ▸ h1))); have HB6 := Lib.hid (HB5.out.setCell (p := ⟨gx, 0, none⟩) HXW.out (.bool true)); have HK6 := Lib.hid (HK5.out.setCell (p := ⟨gx, 0, none⟩) (.inr HXW2.out) (.bool true)); have KR6 := Lib.hid (blk_kept KR5.out hs HXR.out)
  have H76 := Lib.hid (Kd.R_kept (Kd.R_types H75.out KQ5.out (by decide)) hs (fun q h1 h2 => h1.2 h2)); have H86 := Lib.hid (Kd.R_kept (Kd.R_types H85.out KQ5.out (by decide)) hs (fun q h1 h2 => h1.2 h2))
  generalize w5.setCell ⟨gx, 0, none⟩ (.bool true) = w6 at KP HBd6 HB6 HK6 KR6 H76 H86 ⊢
  obtain ⟨x0, x1, x2, _, _, _⟩ := cells3 KP
  obtain ⟨r0, r1, r2, v0, v1, v2⟩ := cells3 KR6.out
  go_wp2_with (fail)
  refine bodyPost_ret (results_cell_row rfl _ _ (w.heap.size + 2) 54 #[.bool true, .slice A7 pfst.length c7, .slice A8 plst.length c8] (0, 0) _ rfl (st3_blk KR6.out) Tryd.underlying54 rfl (by kernel_rfl)) rfl ?_
  have hs := st3_self (w := w6) (g := w.heap.size + 2) (.bool true) (.slice A7 pfst.length c7) (.slice A8 plst.length c8)
  exact ⟨Z4, A7, c7, A8, c8, rfl, Kd.R_mono (Kd.R_kept (Kd.R_types H76.out KR6.out (by decide)) hs (fun q h1 h2 => h1.2 h2)) (fun q h => h.1.1), Kd.R_mono (Kd.R_kept (Kd.R_types H86.out KR6.out (by decide)) hs (fun q h1 h2 => h1.2 h2)) (fun q h => h.1.1), HBd6.out.kept hs (fun q h1 h2 => HNR.out (h2 ▸ h1)), HZI.out, st3_below HB6.out (Nat.le_trans HBS.out (Nat.le_add_right _ 2)) _ _ _, st3_kept HK6.out (.inr (Nat.le_add_right _ 2)) _ _ _⟩
end Go.Proofs.YthocjdlcopmhiaaDoor.G
