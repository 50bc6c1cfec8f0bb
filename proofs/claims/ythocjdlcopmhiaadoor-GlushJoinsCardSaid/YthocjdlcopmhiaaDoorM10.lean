import Derived.Test.YthocjdlcopmhiaaDoorProg
import Derived.Below
import Derived.Deep.Draws
import Derived.Deep.AppendLies
import Derived.Maps.AppendAt
import Derived.OwnWalk
import Derived.Laws.BytesArg
import Derived.Laws.MakeOwn
import Derived.Laws.OwnMore
import Derived.Deep.OwnRows
import Derived.Tactics
import Derived.Lib.ConvBytes
import Derived.Laws.Slices
import Derived.WalkKit
import Derived.KernelRfl
import Derived.RowKit3
import Derived.Deep.LoopGhost
import Derived.Deep.QuietTactic
import Derived.BigQuiet
import Derived.WideLaws
import Derived.Deep.DeepCutAuto
import Derived.Deep.CutBlock
import Derived.Deep.RegionHeld3
import Derived.Laws.Rows
import Derived.Lib.AppendStr
import Derived.ArgAppend
import Derived.Laws.IdiomCopy
import Derived.OrdersHeld
import Derived.Laws.BitsLemmas
import Derived.RowKit
import Derived.Test.YthocjdlcopmhiaaDoorWWords
import Derived.Test.YthocjdlcopmhiaaDoorWLast
import Derived.Test.YthocjdlcopmhiaaDoorWTab
import Derived.Test.YthocjdlcopmhiaaDoorWQPut
import Derived.Test.YthocjdlcopmhiaaDoorWApart
import Derived.Test.YthocjdlcopmhiaaDoorWArr
import Derived.Test.YthocjdlcopmhiaaDoorWZeros
import Derived.Test.YthocjdlcopmhiaaDoorWFoot
import Derived.Test.YthocjdlcopmhiaaDoorWKept
import Derived.Test.YthocjdlcopmhiaaDoorWShare
import Derived.Test.YthocjdlcopmhiaaDoorWN
import Derived.Test.YthocjdlcopmhiaaDoorWRepsOne
import Derived.Test.YthocjdlcopmhiaaDoorWGuard
import Derived.Test.YthocjdlcopmhiaaDoorWNEv
import Derived.Test.YthocjdlcopmhiaaDoorWMore
import Derived.Test.YthocjdlcopmhiaaDoorWEqStruct
import Derived.Test.YthocjdlcopmhiaaDoorWFour
import Derived.Test.YthocjdlcopmhiaaDoorWFootNe
import Derived.Test.YthocjdlcopmhiaaDoorWAt
import Derived.Test.YthocjdlcopmhiaaDoorWInv
import Derived.Test.YthocjdlcopmhiaaDoorWInvWords
import Derived.Test.YthocjdlcopmhiaaDoorM9
import Derived.Test.YthocjdlcopmhiaaDoorM7
namespace Go.Proofs.YthocjdlcopmhiaaDoor.G
open Go.RowKit Go.Proofs.YthocjdlcopmhiaaDoorW.PrintWords Go.Proofs.YthocjdlcopmhiaaDoorW.PrintLast Go.Proofs.YthocjdlcopmhiaaDoorW.PrintMore
attribute [local go_sem] max2_int min2_int max_two min_two max_three min_three max_four min_four
set_option linter.unusedVariables false
set_option linter.unusedSimpArgs false
open GP
section
variable {n : Int}
theorem sym_ok (hn0 : 0 ≤ n) (hn : n ≤ 512) (x : Int) (syms : List Int) (rows : List (List Int)) (hl : rows.length = syms.length) (hr : RowsOk n rows) (hc : ((syms.length + 1 : Nat) : Int) ≤ n) :
  ∃ r, symF n x syms rows = some r ∧ (∃ new, r.syms = syms ++ new) ∧ r.rows.length = r.syms.length ∧ r.syms.length = syms.length + 1 ∧ RowsOk n r.rows ∧ PtOk n r.rows.length (r.null, r.fst, r.lst) ∧ FragPt n r.syms r.rows (fun p => syms.length ≤ p ∧ p < syms.length + 1) (r.null, r.fst, r.lst) (fun w => w = [x]) ∧ ∀ i, i < syms.length → ∀ p, folR n r.rows i p ↔ folR n rows i p := by
 obtain ⟨f, f1, f2, f3⟩ := add_ok n (rows.length + 1) syms.length hn0 hn (by omega) (by omega)
 have hget : ∀ i, (rows ++ [freshF n]).getD i (freshF n) = rows.getD i (freshF n) := fun i => by
  rw [List.getD_eq_getElem?_getD, List.getD_eq_getElem?_getD]
  by_cases hi : i < rows.length
  ·rw [List.getElem?_append_left hi]
  ·rw [List.getElem?_append_right (by omega), List.getElem?_eq_none (by omega : rows.length ≤ i)]
   cases h : i - rows.length with
   | zero => rfl
   | succ j => rfl
 have hfol : ∀ i p, folR n (rows ++ [freshF n]) i p ↔ folR n rows i p := fun i p => by unfold folR; rw [hget]
 have hnone : ∀ p, ¬ folR n rows syms.length p := fun p h => by
  unfold folR at h
  rw [List.getD_eq_getElem?_getD, List.getElem?_eq_none (by omega)] at h
  exact fresh_mem n p h
 refine ⟨⟨false, f, f, syms ++ [x], rows ++ [freshF n]⟩, ?_, ⟨[x], rfl⟩, by simp [hl], by simp, fun i => ?_, ⟨by simpa using f2, by simpa using f2⟩, ?_, fun i _ p => hfol i p⟩
 ·unfold symF
  rw [if_pos (by omega), if_pos (by omega), f1, Option.bind_some]
 ·show SetOk n (rows ++ [freshF n]).length ((rows ++ [freshF n]).getD i (freshF n))
  rw [hget i]
  exact (hr i).mono (by simp)
 ·have hs := frag_sym (symL (syms ++ [x])) (folR n (rows ++ [freshF n])) syms.length (fun q h => hnone q ((hfol _ _).1 h))
  have hx : symL (syms ++ [x]) syms.length = x := by unfold symL; rw [List.getD_eq_getElem?_getD, List.getElem?_append_right (by omega)]; simp
  rw [hx] at hs
  exact Frag.iff hs (fun p => by omega) rfl f3 f3 (fun _ => Iff.rfl) (fun _ _ _ => Iff.rfl)
theorem pow_eps {L : List Int → Prop} (h : ∀ w, L w → w = []) : ∀ (j : Nat) (w : List Int), Pow L j w → w = []
 | 0, w, hp => hp
 | j + 1, w, ⟨u, v, e, h1, h2⟩ => by rw [e, pow_eps h j u h1, h v h2]; rfl
theorem pow_nil {L : List Int → Prop} (h : L []) : ∀ j : Nat, Pow L j []
 | 0 => rfl
 | j + 1 => ⟨[], [], rfl, pow_nil h j, h⟩
theorem times_nil {L : List Int → Prop} {b : Bool} (h : ∀ w, L w ↔ (b = true ∧ w = [])) {lo hi : Int} (h0 : 0 ≤ lo) (hh : hi = -1 ∨ lo ≤ hi) (w : List Int) : TimesI L lo hi w ↔ ((b || (lo == 0)) = true ∧ w = []) := by
 constructor
 ·rintro ⟨j, h1, h2, h3⟩
  refine ⟨?_, pow_eps (fun w hw => ((h w).1 hw).2) j w h3⟩
  cases hb : b with
  | true => rfl
  | false =>
   cases j with
   | zero => simp; omega
   | succ j =>
    obtain ⟨u, v, _, _, h4⟩ := h3
    have := ((h v).1 h4).1
    rw [hb] at this; cases this
 ·rintro ⟨h1, rfl⟩
  rw [Bool.or_eq_true] at h1
  rcases h1 with h1 | h1
  ·exact ⟨lo.toNat, by omega, hh.imp id (fun h => by omega), pow_nil ((h []).2 ⟨h1, rfl⟩) _⟩
  ·have : lo = 0 := by simpa using h1
   exact ⟨0, by omega, hh.imp id (fun h => by omega), rfl⟩
theorem langR_eq {e y : Pr.S24} (h5 : e.f0 = 5) (hf : e.f4 = [y]) (w : List Int) : LangE e w ↔ TimesI (LangE y) e.f2 e.f3 w := by
 rw [langE_eq, h5, hf]
 simp only [show (5 : Int) ≠ 1 by decide, show (5 : Int) ≠ 2 by decide, show (5 : Int) ≠ 3 by decide, show (5 : Int) ≠ 4 by decide, false_and, true_and, false_or, LangR]
theorem rep_ok (hn0 : 0 ≤ n) (hn : n ≤ 512) {k : Nat} {pf : PFn} {e y : Pr.S24} (hw : Wf e) (h5 : e.f0 = 5) (hf : e.f4 = [y]) (hy : PfOk n pf y) (hpos : PosOk k y) (hk : 4096 ≤ k) (syms : List Int) (rows : List (List Int)) (hl : rows.length = syms.length) (hr : RowsOk n rows) (hc : ((syms.length + cntE e : Nat) : Int) ≤ n) :
  ∃ r, repF k n pf e syms rows = some r ∧ PartRes n e syms rows r := by
 obtain ⟨ht, ht2⟩ := times_ok hw h5
 obtain ⟨_, hlo0, hlo1, hhi, hhi2⟩ := hw.rep h5
 have hlen : e.f4.length = 1 := by rw [hf]; rfl
 have hrd : Pr.rd_T24 e.f4 0 = y := by rw [hf]; rfl
 have hcnt : cntE e = cntE y * tms e.f2 e.f3 := by
  rw [cntE_eq, h5, hf]
  simp [cntL]
 have hp1 := hpos 1 (by omega) (by omega)
 unfold repF
 rw [if_pos (by omega), ht, Option.bind_some, hrd, hp1]
 generalize htt : tms e.f2 e.f3 = t at ht2 hcnt ⊢
 have htd : (e.f3 = -1 ∧ (t : Int) = max e.f2 1) ∨ (e.f3 ≠ -1 ∧ (t : Int) = e.f3) := by
  rw [← htt]; unfold tms
  by_cases hm : e.f3 = -1
  ·rw [if_pos hm]; exact .inl ⟨hm, by omega⟩
  ·rw [if_neg hm]; exact .inr ⟨hm, by omega⟩
 by_cases ht0 : t = 0
 ·rw [if_pos (by omega)]
  have h3 : e.f3 = 0 ∧ e.f2 = 0 := by omega
  have hc0 : cntE e = 0 := by rw [hcnt, ht0, Nat.mul_zero]
  refine ⟨_, rfl, ⟨[], by simp [outPt]⟩, hl, by simp [outPt, hc0], hr, fresh_pt n _ true, ?_, fun _ _ _ => Iff.rfl⟩
  refine Frag.iff (frag_fresh n syms rows true) (fun p => ⟨fun h => (by have h' : syms.length ≤ p ∧ p < syms.length + cntE e := h; omega), fun h => h.elim⟩) rfl (fun _ => Iff.rfl) (fun _ => Iff.rfl) (fun w => ?_) (fun _ _ h => h.elim)
  rw [langR_eq h5 hf w, h3.1, h3.2]
  constructor
  ·rintro ⟨j, _, h2, h4⟩
   have : j = 0 := by omega
   subst this
   exact ⟨rfl, h4⟩
  ·rintro ⟨_, rfl⟩
   exact ⟨0, by omega, .inr (by omega), rfl⟩
 ·rw [if_neg (by omega), Option.bind_some]
  by_cases hp0 : cntE y = 0
  ·rw [if_pos (by omega)]
   have hc0 : cntE e = 0 := by rw [hcnt, hp0, Nat.zero_mul]
   obtain ⟨r, e1, R⟩ := hy syms rows hl hr (by rw [hp0]; omega)
   rw [e1, Option.bind_some]
   have hly : ∀ w, LangE y w ↔ (r.null = true ∧ w = []) := fun w => by
    rw [← R.fr.lang w]
    constructor
    ·rintro (h | ⟨p, h, _⟩)
     ·exact h
     ·have := R.fr.fst p h
      rw [hp0] at this; omega
    ·exact .inl
   refine ⟨_, rfl, R.s, R.len, by rw [R.cnt, hp0, hc0], R.rk, ⟨R.pt.f, R.pt.l⟩, ?_, R.old⟩
   have hfn := R.fr
   refine ⟨fun p h => by have := hfn.fst p h; rw [hp0] at this; omega, fun p h => by have := hfn.lst p h; rw [hp0] at this; omega, fun p q hp _ => by rw [hc0] at hp; omega, fun w => ?_⟩
   rw [langR_eq h5 hf w, times_nil hly hlo0 hhi w]
   constructor
   ·rintro (h | ⟨p, h, _⟩)
    ·exact h
    ·have := hfn.fst p h
     rw [hp0] at this; omega
   ·exact .inl
  ·rw [if_neg (by omega), if_pos (by omega)]
   have htn : ((t : Nat) : Int).toNat = t := Int.toNat_natCast t
   rw [htn]
   obtain ⟨news, syms', rows', e1, C⟩ := copies_ok hy t [] syms rows syms.length hl hr (Nat.le_refl _) (fun a h => by cases h) List.Pairwise.nil (by rw [Nat.mul_comm, ← hcnt]; exact hc)
   rw [List.map_nil, List.nil_append] at e1
   rw [e1, Option.bind_some]
   have hcc : syms'.length = syms.length + cntE e := by rw [C.cnt, hcnt, Nat.mul_comm]
   by_cases hm : e.f3 = -1
   ·rw [if_pos hm]
    obtain ⟨lo, hlo⟩ : ∃ lo : Nat, e.f2 = lo := ⟨e.f2.toNat, by omega⟩
    obtain ⟨r, g1, g2, g3, g4, g5, g6, g7⟩ := repFor_ok hn hk C rfl lo (by omega)
    rw [hlo]
    refine ⟨r, g1, by rw [g2]; exact C.s, by rw [g3, g2, C.len], by rw [g2, hcc], g4, by rw [g3]; exact g5, ?_, fun i hi p => by rw [g7 i hi p, C.old i hi p]⟩
    rw [g2]
    refine Frag.iff g6 (fun p => by rw [hcc]) rfl (fun _ => Iff.rfl) (fun _ => Iff.rfl) (fun w => ?_) (fun _ _ _ => Iff.rfl)
    rw [langR_eq h5 hf w, hm, hlo]
   ·rw [if_neg hm, if_pos hlo0, if_pos (by omega)]
    obtain ⟨r, g1, g2, g3, g4, g5, g6, g7⟩ := repTo_ok hn hk C rfl e.f2.toNat (by omega)
    refine ⟨r, g1, by rw [g2]; exact C.s, by rw [g3, g2, C.len], by rw [g2, hcc], g4, by rw [g3]; exact g5, ?_, fun i hi p => by rw [g7 i hi p, C.old i hi p]⟩
    rw [g2]
    refine Frag.iff g6 (fun p => by rw [hcc]) rfl (fun _ => Iff.rfl) (fun _ => Iff.rfl) (fun w => ?_) (fun _ _ _ => Iff.rfl)
    rw [langR_eq h5 hf w]
    have h7 : ((e.f2.toNat : Nat) : Int) = e.f2 := by omega
    have h8 : (t : Int) = e.f3 := by omega
    rw [h7, h8]
theorem part_ok (hn0 : 0 ≤ n) (hn : n ≤ 512) : ∀ (m : Nat) (e : Pr.S24), szE e ≤ m → szE e ≤ 1000000 → Wf e → ∀ k, 4096 + 8 * szE e ≤ k → PfOk n (partF k n) e
 | 0, e, h, _, _, _, _ => by have := szE_pos e; omega
 | m + 1, e, h, hb, hw, k, hk => by
  intro syms rows hl hr hc
  obtain ⟨k, rfl⟩ : ∃ q, k = q + 1 := ⟨k - 1, by omega⟩
  have hs := szE_eq e
  have hkid : (e.f0 = 3 ∨ e.f0 = 4 ∨ e.f0 = 5) → ∀ y ∈ e.f4, PfOk n (partF k n) y := fun hkk y hy => part_ok hn0 hn m y (by have := szL_mem hy; omega) (by have := szL_mem hy; omega) (hw.kids hkk y hy) k (by have := szL_mem hy; omega)
  have hcE := cntE_eq e
  unfold partF
  by_cases h2 : e.f0 = 2
  ·rw [if_pos h2]
   rw [h2] at hcE
   have hc1 : cntE e = 1 := hcE
   obtain ⟨r, e1, e2, e3, e4, e5, e6, e7, e8⟩ := sym_ok hn0 hn e.f1 syms rows hl hr (by rw [hc1] at hc; exact hc)
   refine ⟨r, e1, e2, e3, by rw [hc1]; exact e4, e5, e6, ?_, e8⟩
   refine Frag.iff e7 (fun p => by rw [hc1]) rfl (fun _ => Iff.rfl) (fun _ => Iff.rfl) (fun w => ?_) (fun _ _ _ => Iff.rfl)
   rw [langE_eq, h2]; simp
  ·rw [if_neg h2]
   by_cases h3 : e.f0 = 3
   ·rw [if_pos h3]
    rw [h3] at hcE
    have hc1 : cntE e = cntL e.f4 := hcE
    obtain ⟨r, e1, R⟩ := seqKids_ok (k := k) hn (by omega) e.f4 (fresh0 n true) syms rows syms.length (fun w => true = true ∧ w = []) (hkid (.inl h3)) hl hr (fresh_pt n _ true) (Nat.le_refl _) (Frag.iff (frag_fresh n syms rows true) (fun p => ⟨fun h => (by have h' : syms.length ≤ p ∧ p < syms.length := h; omega), fun h => h.elim⟩) rfl (fun _ => Iff.rfl) (fun _ => Iff.rfl) (fun _ => Iff.rfl) (fun _ _ h => h.elim)) (by rw [← hc1]; exact hc)
    refine ⟨r, e1, R.s, R.len, by rw [hc1]; exact R.cnt, R.rk, R.pt, ?_, R.old⟩
    refine Frag.iff R.fr (fun p => by rw [R.cnt, hc1]) rfl (fun _ => Iff.rfl) (fun _ => Iff.rfl) (fun w => ?_) (fun _ _ _ => Iff.rfl)
    rw [langE_eq, h3, eps_eq, Cat.epsL]; simp
   ·rw [if_neg h3]
    by_cases h4 : e.f0 = 4
    ·rw [if_pos h4]
     rw [h4] at hcE
     have hc1 : cntE e = cntL e.f4 := hcE
     obtain ⟨r, e1, R⟩ := altKids_ok (k := k) hn (by omega) e.f4 (fresh0 n false) syms rows syms.length (fun w => false = true ∧ w = []) (hkid (.inr (.inl h4))) hl hr (fresh_pt n _ false) (Nat.le_refl _) (Frag.iff (frag_fresh n syms rows false) (fun p => ⟨fun h => (by have h' : syms.length ≤ p ∧ p < syms.length := h; omega), fun h => h.elim⟩) rfl (fun _ => Iff.rfl) (fun _ => Iff.rfl) (fun _ => Iff.rfl) (fun _ _ h => h.elim)) (by rw [← hc1]; exact hc)
     refine ⟨r, e1, R.s, R.len, by rw [hc1]; exact R.cnt, R.rk, R.pt, ?_, R.old⟩
     refine Frag.iff R.fr (fun p => by rw [R.cnt, hc1]) rfl (fun _ => Iff.rfl) (fun _ => Iff.rfl) (fun w => ?_) (fun _ _ _ => Iff.rfl)
     rw [langE_eq, h4]; simp
    ·rw [if_neg h4]
     by_cases h5 : e.f0 = 5
     ·rw [if_pos h5]
      obtain ⟨hlen, _⟩ := hw.rep h5
      cases hf : e.f4 with
      | nil => rw [hf] at hlen; cases hlen
      | cons y l' =>
       have hl' : l' = [] := by rw [hf] at hlen; simpa using hlen
       subst hl'
       have hym : y ∈ e.f4 := by rw [hf]; exact List.mem_cons_self
       have hsy := szL_mem hym
       exact rep_ok hn0 hn hw h5 hf (hkid (.inr (.inr h5)) y hym) ((pos_ok _ y (Nat.le_refl _) (by omega) (hw.kids (.inr (.inr h5)) y hym)).up (by omega)) (by omega) syms rows hl hr hc
     ·rw [if_neg h5]
      have hc1 : cntE e = 0 := by rw [hcE, if_neg h2, if_neg h3, if_neg h4, if_neg h5]
      refine ⟨_, rfl, ⟨[], by simp [outPt]⟩, hl, by simp [outPt, hc1], hr, fresh_pt n _ _, ?_, fun _ _ _ => Iff.rfl⟩
      refine Frag.iff (frag_fresh n syms rows (e.f0 == 1)) (fun p => ⟨fun h => (by have h' : syms.length ≤ p ∧ p < syms.length + cntE e := h; omega), fun h => h.elim⟩) rfl (fun _ => Iff.rfl) (fun _ => Iff.rfl) (fun w => ?_) (fun _ _ h => h.elim)
      rw [langE_eq]
      simp [h2, h3, h4, h5]
end
end Go.Proofs.YthocjdlcopmhiaaDoor.G
namespace Go.Proofs.YthocjdlcopmhiaaDoor.G
open Go.RowKit Go.Proofs.YthocjdlcopmhiaaDoorW.PrintWords Go.Proofs.YthocjdlcopmhiaaDoorW.PrintLast Go.Proofs.YthocjdlcopmhiaaDoorW.PrintMore
attribute [local go_sem] max2_int min2_int max_two min_two max_three min_three max_four min_four
set_option linter.unusedVariables false
set_option linter.unusedSimpArgs false
theorem N_put1 {α : Type} {d : Kd α} {e base g n cap : Nat} {W : World} {ok okp : Nat → Prop} {xs : List α} {x' : α} {u : Value} (hd : d.sz = 1) (HO : Kd.N d e W base ok (.slice (some ⟨g, 0, none⟩) n cap) xs) (i : Int) (h0 : 0 ≤ i) (hi : i < n) (hM : Kd.FK d W okp x' [u]) (hokp : ∀ k, okp k → ok k ∧ k ≠ g) :
  Kd.N d e (W.setCell ⟨g, i.toNat, none⟩ u) base ok (.slice (some ⟨g, 0, none⟩) n cap) (xs.set i.toNat x') ∧ W.grownBy (W.setCell ⟨g, i.toNat, none⟩ u) (some g) := by
 obtain ⟨hown, rows, hl, hR, hf⟩ := HO
 have hn := (Kd.R_reads' hR).1
 obtain ⟨c, hcl, _, hcc, _⟩ := Kd.R_elem hR [] i h0 hi
 have hcl1 : c.length = 1 := by rw [hcl]; exact hd
 obtain ⟨c0, rfl⟩ := List.length_eq_one_iff.1 hcl1
 obtain ⟨hr, hg⟩ := Kd.R_seg (d := Kd.raw d.sz) (j := 0) (seg := [u]) (c := [c0]) (x' := [u]) (okp := fun _ => False) (Kd.raw_any hR) i h0 hi hcl hcc (by show 0 + 1 ≤ d.sz; omega) (Kd.FK_raw hM) (fun _ hk => hk.elim)
 have e1 : i.toNat * (Kd.raw d.sz).sz + 0 = i.toNat := by show i.toNat * d.sz + 0 = i.toNat; rw [hd]; omega
 rw [e1] at hr hg
 exact ⟨Kd.N_written hown hl hf hr hg hM hokp, hg⟩
def followF (k : Nat) : List (List Int) → Nat → List (List Int) → Option (List (List Int))
 | [], _, acc => some acc
 | s :: l, i, acc => if i < acc.length then (Pr.glush_set_list.f k s).bind fun x => followF k l (i + 1) (acc.set i x) else none
def glush_Build.f (k : Nat) (a0_0 : Int) (a0_1 : Int) (a0_2 : Int) (a0_3 : Int) (l0_4 : List Pr.S24) (a1 : Int) : Option (List Int × Bool × List Int × List Int × List (List Int) × Int) :=
 (glush_Check.f k a0_0 a0_1 a0_2 a0_3 l0_4).bind fun e => if e = 0 then
  (Pr.glush_Positions.f k a0_0 a0_1 a0_2 a0_3 l0_4 (min a1 512)).bind fun n =>
   if min a1 512 < 0 ∨ min a1 512 < n then some ([], false, [], [], [], 3)
   else if 0 ≤ n then (partF k n ⟨a0_0, a0_1, a0_2, a0_3, l0_4⟩ [] []).bind fun p => (Pr.glush_set_list.f k p.fst).bind fun F => (Pr.glush_set_list.f k p.lst).bind fun L =>
    (followF k p.rows 0 (List.replicate n.toNat [])).bind fun Fo => some (p.syms, p.null, F, L, Fo, 0)
   else none
 else some ([], false, [], [], [], e)
theorem tup6 {A B C D E F : Type} {a a' : A} {b b' : B} {c c' : C} {d d' : D} {e e' : E} {f f' : F} (h : (a, b, c, d, e, f) = (a', b', c', d', e', f')) : a = a' ∧ b = b' ∧ c = c' ∧ d = d' ∧ e = e' ∧ f = f' := by
 cases h; exact ⟨rfl, rfl, rfl, rfl, rfl, rfl⟩
abbrev st5 (w : World) (g : Nat) (v0 v1 v2 v3 v4 : Value) : World := ((((w.setCell ⟨g, 0, none⟩ v0).setCell ⟨g, 1, none⟩ v1).setCell ⟨g, 2, none⟩ v2).setCell ⟨g, 3, none⟩ v3).setCell ⟨g, 4, none⟩ v4
theorem st5_blk {w : World} {g : Nat} {t : TypeId} {z0 z1 z2 z3 z4 : Value} (h : w.heap[g]? = some (.cells #[z0, z1, z2, z3, z4] t (0, 0))) (v0 v1 v2 v3 v4 : Value) : (st5 w g v0 v1 v2 v3 v4).heap[g]? = some (.cells #[v0, v1, v2, v3, v4] t (0, 0)) := blk_put (blk_put (blk_put (blk_put (blk_put h 0 _ rfl) 1 _ rfl) 2 _ rfl) 3 _ rfl) 4 _ rfl
theorem st5_below {w w1 : World} {g B : Nat} (h : Below B w w1) (hg : B ≤ g) (v0 v1 v2 v3 v4 : Value) : Below B w (st5 w1 g v0 v1 v2 v3 v4) := ((((h.setCell (p := ⟨g, 0, none⟩) hg v0).setCell (p := ⟨g, 1, none⟩) hg v1).setCell (p := ⟨g, 2, none⟩) hg v2).setCell (p := ⟨g, 3, none⟩) hg v3).setCell (p := ⟨g, 4, none⟩) hg v4
theorem st5_self {w : World} {g : Nat} (v0 v1 v2 v3 v4 : Value) : Kept w (st5 w g v0 v1 v2 v3 v4) (fun k => k = g) := (((((Kept.refl w (fun k => k = g)).setCell (p := ⟨g, 0, none⟩) (.inl rfl) v0).setCell (p := ⟨g, 1, none⟩) (.inl rfl) v1).setCell (p := ⟨g, 2, none⟩) (.inl rfl) v2).setCell (p := ⟨g, 3, none⟩) (.inl rfl) v3).setCell (p := ⟨g, 4, none⟩) (.inl rfl) v4
abbrev C5 (w : World) (g : Nat) (v0 v1 v2 v3 v4 : Value) : Prop := w.cell? ⟨g, 0, none⟩ = some v0 ∧ w.cell? ⟨g, 1, none⟩ = some v1 ∧ w.cell? ⟨g, 2, none⟩ = some v2 ∧ w.cell? ⟨g, 3, none⟩ = some v3 ∧ w.cell? ⟨g, 4, none⟩ = some v4 ∧ w.frozen? ⟨g, 0, none⟩ = false ∧ w.frozen? ⟨g, 1, none⟩ = false ∧ w.frozen? ⟨g, 2, none⟩ = false ∧ w.frozen? ⟨g, 3, none⟩ = false ∧ w.frozen? ⟨g, 4, none⟩ = false
theorem cells5 {w : World} {g : Nat} {t : TypeId} {v0 v1 v2 v3 v4 : Value} (h : w.heap[g]? = some (.cells #[v0, v1, v2, v3, v4] t (0, 0))) : C5 w g v0 v1 v2 v3 v4 :=
 ⟨(blk_cell h 0).trans rfl, (blk_cell h 1).trans rfl, (blk_cell h 2).trans rfl, (blk_cell h 3).trans rfl, (blk_cell h 4).trans rfl, blk_frozen h 0, blk_frozen h 1, blk_frozen h 2, blk_frozen h 3, blk_frozen h 4⟩
theorem row_drop (l : List (List Int)) (x : Int) (h0 : 0 ≤ x) (h1 : x < l.length) : l.drop x.toNat = l.getD x.toNat [] :: l.drop (x + 1).toNat := by
 have hx : x.toNat < l.length := by omega
 have e1 : (x + 1).toNat = x.toNat + 1 := by omega
 rw [e1, List.drop_eq_getElem_cons hx, List.getD_eq_getElem?_getD, List.getElem?_eq_getElem hx]
 rfl
end Go.Proofs.YthocjdlcopmhiaaDoor.G
