import Derived.Test.YthocjdlcopmhiaaDoorProg
import Derived.Below
import Derived.Deep.Draws
import Derived.Deep.AppendLies
import Derived.Maps.AppendAt
import Derived.OwnWalk
import Derived.Laws.BytesArg
import Derived.Laws.MakeOwn
import Derived.Laws.OwnMore
import Derived.Deep.OwnRows
import Derived.Tactics
import Derived.Lib.ConvBytes
import Derived.Laws.Slices
import Derived.WalkKit
import Derived.KernelRfl
import Derived.RowKit3
import Derived.Deep.LoopGhost
import Derived.Deep.QuietTactic
import Derived.BigQuiet
import Derived.WideLaws
import Derived.Deep.DeepCutAuto
import Derived.Deep.CutBlock
import Derived.Deep.RegionHeld3
import Derived.Laws.Rows
import Derived.Lib.AppendStr
import Derived.ArgAppend
import Derived.Laws.IdiomCopy
import Derived.OrdersHeld
import Derived.Laws.BitsLemmas
import Derived.RowKit
import Derived.Test.YthocjdlcopmhiaaDoorWWords
import Derived.Test.YthocjdlcopmhiaaDoorWLast
import Derived.Test.YthocjdlcopmhiaaDoorWTab
import Derived.Test.YthocjdlcopmhiaaDoorWQPut
import Derived.Test.YthocjdlcopmhiaaDoorWApart
import Derived.Test.YthocjdlcopmhiaaDoorWArr
import Derived.Test.YthocjdlcopmhiaaDoorWZeros
import Derived.Test.YthocjdlcopmhiaaDoorWFoot
import Derived.Test.YthocjdlcopmhiaaDoorWKept
import Derived.Test.YthocjdlcopmhiaaDoorWShare
import Derived.Test.YthocjdlcopmhiaaDoorWN
import Derived.Test.YthocjdlcopmhiaaDoorWRepsOne
import Derived.Test.YthocjdlcopmhiaaDoorWGuard
import Derived.Test.YthocjdlcopmhiaaDoorWNEv
import Derived.Test.YthocjdlcopmhiaaDoorWMore
import Derived.Test.YthocjdlcopmhiaaDoorWEqStruct
import Derived.Test.YthocjdlcopmhiaaDoorWFour
import Derived.Test.YthocjdlcopmhiaaDoorWFootNe
import Derived.Test.YthocjdlcopmhiaaDoorWAt
import Derived.Test.YthocjdlcopmhiaaDoorWInv
import Derived.Test.YthocjdlcopmhiaaDoorWInvWords
import Derived.Test.YthocjdlcopmhiaaDoorM8
import Derived.Test.YthocjdlcopmhiaaDoorPrx4
import Derived.Test.YthocjdlcopmhiaaDoorM2
namespace Go.Proofs.YthocjdlcopmhiaaDoor.G
open Go.RowKit Go.Proofs.YthocjdlcopmhiaaDoorW.PrintWords Go.Proofs.YthocjdlcopmhiaaDoorW.PrintLast Go.Proofs.YthocjdlcopmhiaaDoorW.PrintMore
attribute [local go_sem] max2_int min2_int max_two min_two max_three min_three max_four min_four
set_option linter.unusedVariables false
set_option linter.unusedSimpArgs false
open GP
section
variable {n : Int} {k : Nat}
abbrev Apart2 (a b : PtL) : Prop := ∀ p, a.Q p → ¬ b.Q p
def AccOk (n : Int) (n0 : Nat) (syms : List Int) (rows : List (List Int)) (a : PtL) : Prop := PtOk n rows.length a.x ∧ FragPt n syms rows a.Q a.x a.M ∧ ∀ p, a.Q p → n0 ≤ p ∧ p < syms.length
structure CopRes (n : Int) (n0 c m : Nat) (L : List Int → Prop) (acc : List PtL) (syms : List Int) (rows : List (List Int)) (news : List PtL) (syms' : List Int) (rows' : List (List Int)) : Prop where
 nl : news.length = m
 ml : ∀ a ∈ news, a.M = L
 s : ∃ new, syms' = syms ++ new
 len : rows'.length = syms'.length
 cnt : syms'.length = syms.length + m * c
 rk : RowsOk n rows'
 all : ∀ a ∈ acc ++ news, AccOk n n0 syms' rows' a
 ap : (acc ++ news).Pairwise Apart2
 cov : ∀ p, syms.length ≤ p → p < syms'.length → ∃ a ∈ news, a.Q p
 old : ∀ i, i < syms.length → ∀ p, folR n rows' i p ↔ folR n rows i p
theorem copies_ok {pf : PFn} {y : Pr.S24} (hy : PfOk n pf y) : ∀ (m : Nat) (acc : List PtL) (syms : List Int) (rows : List (List Int)) (n0 : Nat), rows.length = syms.length → RowsOk n rows → n0 ≤ syms.length → (∀ a ∈ acc, AccOk n n0 syms rows a) → acc.Pairwise Apart2 → ((syms.length + m * cntE y : Nat) : Int) ≤ n →
  ∃ news syms' rows', copies pf y m (acc.map (·.x)) syms rows = some ((acc ++ news).map (·.x), syms', rows') ∧ CopRes n n0 (cntE y) m (LangE y) acc syms rows news syms' rows'
 | 0, acc, syms, rows, n0, hl, hr, h0, ha, hp, hc => ⟨[], syms, rows, by simp [copies], ⟨rfl, fun a h => (by cases h), ⟨[], by simp⟩, hl, by simp, hr, by simpa using ha, by simpa using hp, fun p h1 h2 => by omega, fun _ _ _ => Iff.rfl⟩⟩
 | m + 1, acc, syms, rows, n0, hl, hr, h0, ha, hp, hc => by
  have hc1 : (m + 1) * cntE y = m * cntE y + cntE y := Nat.succ_mul _ _
  obtain ⟨r, e1, R⟩ := hy syms rows hl hr (by omega)
  obtain ⟨new1, hs1⟩ := R.s
  have hlen := R.len; have hcnt := R.cnt
  let z : PtL := ⟨(r.null, r.fst, r.lst), fun p => syms.length ≤ p ∧ p < syms.length + cntE y, LangE y⟩
  have hz : AccOk n n0 r.syms r.rows z := ⟨R.pt, R.fr, fun p hp => by have h1 : syms.length ≤ p ∧ p < syms.length + cntE y := hp; omega⟩
  have ha1 : ∀ a ∈ acc ++ [z], AccOk n n0 r.syms r.rows a := fun a hm => by
   rcases List.mem_append.1 hm with hm | hm
   ·obtain ⟨a1, a2, a3⟩ := ha a hm
    exact ⟨PtOk.mono a1 (by omega), FragPt.stay a2 (fun p hp => by rw [hs1]; exact symL_app _ _ _ (a3 p hp).2) (fun p q hp => R.old p (a3 p hp).2 q), fun p hp => by have := a3 p hp; omega⟩
   ·rw [List.mem_singleton] at hm; rw [hm]; exact hz
  have hp1 : (acc ++ [z]).Pairwise Apart2 := List.pairwise_append.2 ⟨hp, List.pairwise_singleton _ _, fun a hm b hb => by
   rw [List.mem_singleton] at hb; rw [hb]
   intro p h1 h2
   have h3 := (ha a hm).2.2 p h1
   have h4 : syms.length ≤ p ∧ p < syms.length + cntE y := h2
   omega⟩
  obtain ⟨news, syms', rows', e2, C⟩ := copies_ok hy m (acc ++ [z]) r.syms r.rows n0 hlen R.rk (by omega) ha1 hp1 (by omega)
  obtain ⟨new2, hs2⟩ := C.s
  have happ : acc ++ [z] ++ news = acc ++ z :: news := by simp
  refine ⟨z :: news, syms', rows', ?_, ⟨by simp [C.nl], fun a hm => ?_, ⟨new1 ++ new2, by rw [hs2, hs1, List.append_assoc]⟩, C.len, by rw [C.cnt, hcnt]; omega, C.rk, by rw [← happ]; exact C.all, by rw [← happ]; exact C.ap, fun p h1 h2 => ?_, fun i hi p => by rw [C.old i (by omega) p, R.old i hi p]⟩⟩
  ·unfold copies
   rw [e1, Option.bind_some]
   rw [List.map_append] at e2
   rw [← happ]
   exact e2
  ·rcases List.mem_cons.1 hm with rfl | hm
   ·rfl
   ·exact C.ml a hm
  ·by_cases hq : p < syms.length + cntE y
   ·exact ⟨z, List.mem_cons_self, h1, hq⟩
   ·obtain ⟨a, h3, h4⟩ := C.cov p (by omega) h2
    exact ⟨a, List.mem_cons_of_mem _ h3, h4⟩
theorem catL_rep (L M : List Int → Prop) : ∀ (m j : Nat), catL (Pow L j) (List.replicate m L ++ [M]) = Cat (Pow L (j + m)) M
 | 0, j => rfl
 | m + 1, j => by
  rw [List.replicate_succ, List.cons_append]
  show catL (Pow L (j + 1)) _ = _
  rw [catL_rep L M m (j + 1), show j + 1 + m = j + (m + 1) by omega]
theorem catL_pow (L : List Int → Prop) : ∀ (m j : Nat), catL (Pow L j) (List.replicate m L) = Pow L (j + m)
 | 0, j => rfl
 | m + 1, j => by
  rw [List.replicate_succ]
  show catL (Pow L (j + 1)) _ = _
  rw [catL_pow L m (j + 1), show j + 1 + m = j + (m + 1) by omega]
theorem tailL_up (L : List Int → Prop) : ∀ (m j : Nat), tailL (UpTo L j) (List.replicate m L) = UpTo L (j + m)
 | 0, j => rfl
 | m + 1, j => by
  rw [List.replicate_succ]
  show tailL (UpTo L (j + 1)) _ = _
  rw [tailL_up L m (j + 1), show j + 1 + m = j + (m + 1) by omega]
theorem eps_eq : (fun w : List Int => true = true ∧ w = []) = fun w => w = [] := funext fun w => propext ⟨fun h => h.2, fun h => ⟨rfl, h⟩⟩
theorem timesI_none (L : List Int → Prop) (lo : Nat) (w : List Int) : TimesI L (lo : Int) (-1) w ↔ Times L lo none w := by
 constructor
 ·rintro ⟨j, h1, _, h3⟩; exact ⟨j, by omega, fun h e => (by cases e), h3⟩
 ·rintro ⟨j, h1, _, h3⟩; exact ⟨j, by omega, .inl rfl, h3⟩
theorem timesI_some (L : List Int → Prop) (lo hi : Nat) (w : List Int) : TimesI L (lo : Int) (hi : Int) w ↔ Times L lo (some hi) w := by
 constructor
 ·rintro ⟨j, h1, h2, h3⟩; exact ⟨j, by omega, fun h e => by injection e with e; omega, h3⟩
 ·rintro ⟨j, h1, h2, h3⟩; exact ⟨j, by omega, .inr (by have := h2 hi rfl; omega), h3⟩
theorem map_rep {l : List PtL} {L : List Int → Prop} (h : ∀ a ∈ l, a.M = L) : l.map (·.M) = List.replicate l.length L := by
 rw [List.eq_replicate_iff]
 refine ⟨by simp, fun x hx => ?_⟩
 obtain ⟨a, ha, rfl⟩ := List.mem_map.1 hx
 exact h a ha
theorem repFor_ok (hn : n ≤ 512) (hk : 4096 ≤ k) {n0 c t : Nat} {L : List Int → Prop} {syms0 syms : List Int} {rows0 rows : List (List Int)} {ls : List PtL} (C : CopRes n n0 c t L [] syms0 rows0 ls syms rows) (h0 : n0 = syms0.length) (lo : Nat) (ht : t = max lo 1) :
  ∃ r, repFor k n (lo : Int) t (ls.map (·.x)) syms rows = some r ∧ r.syms = syms ∧ r.rows.length = rows.length ∧ RowsOk n r.rows ∧ PtOk n rows.length (r.null, r.fst, r.lst) ∧ FragPt n syms r.rows (fun p => n0 ≤ p ∧ p < syms.length) (r.null, r.fst, r.lst) (TimesI L (lo : Int) (-1)) ∧ ∀ i, i < n0 → ∀ p, folR n r.rows i p ↔ folR n rows i p := by
 have hpos : 0 < t := by omega
 have hall : ∀ a ∈ ls, AccOk n n0 syms rows a := by simpa using C.all
 have hap : ls.Pairwise Apart2 := by simpa using C.ap
 obtain ⟨init, z, rfl⟩ : ∃ init z, ls = init ++ [z] := by
  rcases List.eq_nil_or_concat ls with h | ⟨i, z, h⟩
  ·have := C.nl; rw [h] at this; simp at this; omega
  ·exact ⟨i, z, by rw [h, List.concat_eq_append]⟩
 have hil : init.length = t - 1 := by have := C.nl; simp at this; omega
 obtain ⟨z1, z2, z3⟩ := hall z (List.mem_append_right _ (List.mem_singleton.2 rfl))
 obtain ⟨hp1, _, hp3⟩ := List.pairwise_append.1 hap
 have hpz : ∀ a ∈ init, Apart2 a z := fun a ha => hp3 a ha z (List.mem_singleton.2 rfl)
 obtain ⟨rows1, e1, e2, e3, e4⟩ := link_ok k n hn hk C.rk z1.l z1.f
 have e4' : ∀ i p, folR n rows1 i p ↔ folR n rows i p ∨ (Mem z.x.2.2 i ∧ Mem z.x.2.1 p) := e4
 have hmz : z.M = L := C.ml z (List.mem_append_right _ (List.mem_singleton.2 rfl))
 have fz : FragPt n syms rows1 z.Q z.x (Plus L) := by
  have := frag_plus z2 (fol' := folR n rows1) (fun p q _ => e4' p q)
  rw [hmz] at this
  exact this
 -- the last one, with the empty word or without
 let z' : PtL := if lo = 0 then ⟨(true, z.x.2), z.Q, Opt (Plus L)⟩ else ⟨z.x, z.Q, Plus L⟩
 have hz' : PtOk n rows1.length z'.x ∧ FragPt n syms rows1 z'.Q z'.x z'.M ∧ z'.Q = z.Q := by
  by_cases hl : lo = 0
  ·have : z' = ⟨(true, z.x.2), z.Q, Opt (Plus L)⟩ := if_pos hl
   rw [this]
   exact ⟨by rw [e2]; exact ⟨z1.f, z1.l⟩, frag_opt fz, rfl⟩
  ·have : z' = ⟨z.x, z.Q, Plus L⟩ := if_neg hl
   rw [this]
   exact ⟨by rw [e2]; exact z1, fz, rfl⟩
 have hinit : ∀ a ∈ init, PtOk n rows1.length a.x ∧ FragPt n syms rows1 a.Q a.x a.M := fun a ha => by
  obtain ⟨a1, a2, a3⟩ := hall a (List.mem_append_left _ ha)
  exact ⟨by rw [e2]; exact a1, FragPt.stay a2 (fun _ _ => rfl) (fun p q hp => by
   rw [e4' p q]
   exact ⟨fun h => h.elim id (fun h => (hpz a ha p hp (z2.lst p h.1)).elim), .inl⟩)⟩
 obtain ⟨o, f1, f2, f3, f4, f5, f6⟩ := rowPts_frag (syms := syms) (k := k) hn hk (init ++ [z']) (fresh0 n true) (fun _ => False) (fun w => true = true ∧ w = []) rows1 e3 (fresh_pt n _ true) (frag_fresh n syms rows1 true) (fun a ha => by
  rcases List.mem_append.1 ha with ha | ha
  ·exact ⟨(hinit a ha).1, (hinit a ha).2, fun _ h => h.elim⟩
  ·rw [List.mem_singleton] at ha; rw [ha]
   exact ⟨hz'.1, hz'.2.1, fun _ h => h.elim⟩) (List.pairwise_append.2 ⟨hp1, List.pairwise_singleton _ _, fun a ha b hb => by
   rw [List.mem_singleton] at hb; rw [hb]
   intro p h1 h2
   rw [hz'.2.2] at h2
   exact hpz a ha p h1 h2⟩)
 have hget : ((init ++ [z]).map (·.x)).getD (t - 1) (false, [], []) = z.x := by
  rw [List.map_append, List.getD_eq_getElem?_getD, List.getElem?_append_right (by simp [hil])]
  simp [hil]
 have hset : (if (lo : Int) = 0 then ((init ++ [z]).map (·.x)).set (t - 1) (true, z.x.2) else (init ++ [z]).map (·.x)) = (init ++ [z']).map (·.x) := by
  by_cases hl : lo = 0
  ·have hz2 : z' = ⟨(true, z.x.2), z.Q, Opt (Plus L)⟩ := if_pos hl
   rw [if_pos (by omega), hz2, List.map_append, List.map_append, List.set_append_right _ _ (by simp [hil])]
   simp [hil]
  ·have hz2 : z' = ⟨z.x, z.Q, Plus L⟩ := if_neg hl
   rw [if_neg (by omega), hz2, List.map_append, List.map_append]
   rfl
 have hun : ∀ p, unionP (fun _ => False) ((init ++ [z']).map (·.Q)) p ↔ n0 ≤ p ∧ p < syms.length := fun p => by
  rw [unionP_iff]
  constructor
  ·rintro (h | ⟨Q, hQ, h⟩)
   ·exact h.elim
   ·obtain ⟨a, ha, rfl⟩ := List.mem_map.1 hQ
    rcases List.mem_append.1 ha with ha | ha
    ·exact (hall a (List.mem_append_left _ ha)).2.2 p h
    ·rw [List.mem_singleton] at ha; subst ha
     rw [hz'.2.2] at h
     exact z3 p h
  ·rintro ⟨h1, h2⟩
   obtain ⟨a, ha, h3⟩ := C.cov p (by omega) h2
   rcases List.mem_append.1 ha with ha | ha
   ·exact .inr ⟨a.Q, List.mem_map.2 ⟨a, List.mem_append_left _ ha, rfl⟩, h3⟩
   ·rw [List.mem_singleton] at ha; subst ha
    exact .inr ⟨z'.Q, List.mem_map.2 ⟨z', List.mem_append_right _ (List.mem_singleton.2 rfl), rfl⟩, by rw [hz'.2.2]; exact h3⟩
 have hlang : ∀ w, TimesI L (lo : Int) (-1) w ↔ catL (fun w => true = true ∧ w = []) ((init ++ [z']).map (·.M)) w := fun w => by
  rw [List.map_append, map_rep (l := init) (L := L) (fun a ha => C.ml a (List.mem_append_left _ ha)), eps_eq]
  have := catL_rep L z'.M init.length 0
  have e : catL (fun w => w = []) (List.replicate init.length L ++ List.map (·.M) [z']) = Cat (Pow L (0 + init.length)) z'.M := this
  rw [e, timesI_none, hil, Nat.zero_add]
  by_cases hl : lo = 0
  ·have hz2 : z' = ⟨(true, z.x.2), z.Q, Opt (Plus L)⟩ := if_pos hl
   rw [hz2]
   have ht1 : t - 1 = 0 := by omega
   rw [ht1, hl]
   show _ ↔ Cat (fun w => w = []) (Opt (Plus L)) w
   rw [Cat.epsL, times_star]
  ·have hz2 : z' = ⟨z.x, z.Q, Plus L⟩ := if_neg hl
   rw [hz2]
   obtain ⟨j, rfl⟩ : ∃ j, lo = j + 1 := ⟨lo - 1, by omega⟩
   have ht1 : t - 1 = j := by omega
   rw [ht1, ← times_plus]
 refine ⟨outPt o.1 syms o.2, ?_, rfl, by show o.2.length = _; rw [f2, e2], f3, by rw [← e2]; exact f4, ?_, fun i hi p => ?_⟩
 ·unfold repFor
  rw [if_pos hpos, hget, e1, Option.bind_some, hset, f1, Option.bind_some]
 ·exact Frag.iff f5 (fun p => (hun p).symm) rfl (fun _ => Iff.rfl) (fun _ => Iff.rfl) hlang (fun _ _ _ => Iff.rfl)
 ·show folR n o.2 i p ↔ _
  rw [f6 i p (fun h => by have := (hun i).1 h; omega), e4' i p]
  exact ⟨fun h => h.elim id (fun h => by have := z3 i (z2.lst i h.1); omega), .inl⟩
end
end Go.Proofs.YthocjdlcopmhiaaDoor.G
namespace Go.Proofs.YthocjdlcopmhiaaDoor.G
open Go.RowKit Go.Proofs.YthocjdlcopmhiaaDoorW.PrintWords Go.Proofs.YthocjdlcopmhiaaDoorW.PrintLast Go.Proofs.YthocjdlcopmhiaaDoorW.PrintMore
attribute [local go_sem] max2_int min2_int max_two min_two max_three min_three max_four min_four
set_option linter.unusedVariables false
set_option linter.unusedSimpArgs false
open GP
section
variable {n : Int} {k : Nat}
theorem allOk_mk {l : List Pt} {rows : List (List Int)} (hl : ∀ x ∈ l, PtOk n rows.length x) (hr : RowsOk n rows) : allOkB n l rows = true := by
 unfold allOkB
 rw [Bool.and_eq_true, List.all_eq_true, List.all_eq_true]
 refine ⟨fun x hx => ?_, fun r hr' => ?_⟩
 ·rw [Bool.and_eq_true]
  exact ⟨setOkB_of (hl x hx).f, setOkB_of (hl x hx).l⟩
 ·obtain ⟨i, hi, rfl⟩ := List.getElem_of_mem hr'
  have := hr i
  rw [List.getD_eq_getElem?_getD, List.getElem?_eq_getElem hi] at this
  exact setOkB_of this
theorem repTo_ok (hn : n ≤ 512) (hk : 4096 ≤ k) {n0 c t : Nat} {L : List Int → Prop} {syms0 syms : List Int} {rows0 rows : List (List Int)} {ls : List PtL} (C : CopRes n n0 c t L [] syms0 rows0 ls syms rows) (h0 : n0 = syms0.length) (lo : Nat) (ht : lo ≤ t) :
  ∃ r, repTo k n lo (ls.map (·.x)) syms rows = some r ∧ r.syms = syms ∧ r.rows.length = rows.length ∧ RowsOk n r.rows ∧ PtOk n rows.length (r.null, r.fst, r.lst) ∧ FragPt n syms r.rows (fun p => n0 ≤ p ∧ p < syms.length) (r.null, r.fst, r.lst) (TimesI L (lo : Int) (t : Int)) ∧ ∀ i, i < n0 → ∀ p, folR n r.rows i p ↔ folR n rows i p := by
 have hall : ∀ a ∈ ls, AccOk n n0 syms rows a := by simpa using C.all
 have hap : ls.Pairwise Apart2 := by simpa using C.ap
 have hnl := C.nl
 -- the later ones, from the right
 have hmem : ∀ a ∈ (ls.drop lo).reverse, a ∈ ls := fun a ha => List.mem_of_mem_drop (List.mem_reverse.1 ha)
 have htd : ls.take lo ++ ls.drop lo = ls := List.take_append_drop lo ls
 have hap2 := hap
 rw [← htd] at hap2
 obtain ⟨hp1, hp2, hp3⟩ := List.pairwise_append.1 hap2
 obtain ⟨t1, f1, f2, f3, f4, f5, f6⟩ := tailPts_frag (syms := syms) (k := k) hn hk (ls.drop lo).reverse (fresh0 n true) (fun _ => False) (fun w => true = true ∧ w = []) rows C.rk (fresh_pt n _ true) (frag_fresh n syms rows true) (fun a ha => ⟨(hall a (hmem a ha)).1, (hall a (hmem a ha)).2.1, fun _ h => h.elim⟩)
  (List.pairwise_reverse.2 (hp2.imp (fun {a b} h p h1 h2 => h p h2 h1)))
 have hun1 : ∀ p, unionP (fun _ => False) ((ls.drop lo).reverse.map (·.Q)) p ↔ ∃ a ∈ ls.drop lo, a.Q p := fun p => by
  rw [unionP_iff]
  constructor
  ·rintro (h | ⟨Q, hQ, h⟩)
   ·exact h.elim
   ·obtain ⟨a, ha, rfl⟩ := List.mem_map.1 hQ
    exact ⟨a, List.mem_reverse.1 ha, h⟩
  ·rintro ⟨a, ha, h⟩
   exact .inr ⟨a.Q, List.mem_map.2 ⟨a, List.mem_reverse.2 ha, rfl⟩, h⟩
 -- the first ones
 have htake : ∀ a ∈ ls.take lo, a ∈ ls := fun a ha => List.mem_of_mem_take ha
 obtain ⟨o, g1, g2, g3, g4, g5, g6⟩ := rowPts_frag (syms := syms) (k := k) hn hk (ls.take lo) (fresh0 n true) (fun _ => False) (fun w => true = true ∧ w = []) t1.2 f3 (fresh_pt n _ true) (frag_fresh n syms t1.2 true) (fun a ha => ⟨by rw [f2]; exact (hall a (htake a ha)).1, FragPt.stay (hall a (htake a ha)).2.1 (fun _ _ => rfl) (fun p q hp => f6 p q (fun h => by
   obtain ⟨b, hb, h2⟩ := (hun1 p).1 h
   exact hp3 a ha b hb p hp h2)), fun _ h => h.elim⟩) hp1
 have hun2 : ∀ p, unionP (fun _ => False) ((ls.take lo).map (·.Q)) p ↔ ∃ a ∈ ls.take lo, a.Q p := fun p => by
  rw [unionP_iff]
  constructor
  ·rintro (h | ⟨Q, hQ, h⟩)
   ·exact h.elim
   ·obtain ⟨a, ha, rfl⟩ := List.mem_map.1 hQ
    exact ⟨a, ha, h⟩
  ·rintro ⟨a, ha, h⟩
   exact .inr ⟨a.Q, List.mem_map.2 ⟨a, ha, rfl⟩, h⟩
 have hdis : ∀ p, unionP (fun _ => False) ((ls.take lo).map (·.Q)) p → ¬ unionP (fun _ => False) ((ls.drop lo).reverse.map (·.Q)) p := fun p h1 h2 => by
  obtain ⟨a, ha, h3⟩ := (hun2 p).1 h1
  obtain ⟨b, hb, h4⟩ := (hun1 p).1 h2
  exact hp3 a ha b hb p h3 h4
 have ft : FragPt n syms o.2 (unionP (fun _ => False) ((ls.drop lo).reverse.map (·.Q))) t1.1 (tailL (fun w => true = true ∧ w = []) ((ls.drop lo).reverse.map (·.M))) := FragPt.stay f5 (fun _ _ => rfl) (fun p q hp => g6 p q (fun h => hdis p h hp))
 obtain ⟨z, e1, e2, e3, e4, e5, e6, e7⟩ := seqPt_frag (k := k) hn hk g3 (by rw [g2]; exact g4) (by rw [g2, f2]; exact f4) g5 ft hdis
 have hlang : ∀ w, TimesI L (lo : Int) (t : Int) w ↔ Cat (catL (fun w => true = true ∧ w = []) ((ls.take lo).map (·.M))) (tailL (fun w => true = true ∧ w = []) ((ls.drop lo).reverse.map (·.M))) w := fun w => by
  rw [map_rep (l := ls.take lo) (L := L) (fun a ha => C.ml a (htake a ha)), map_rep (l := (ls.drop lo).reverse) (L := L) (fun a ha => C.ml a (hmem a ha)), eps_eq]
  have h1 : catL (fun w => w = []) (List.replicate (ls.take lo).length L) = Pow L (0 + (ls.take lo).length) := catL_pow L _ 0
  have h2 : tailL (fun w => w = []) (List.replicate ((ls.drop lo).reverse).length L) = UpTo L (0 + ((ls.drop lo).reverse).length) := tailL_up L _ 0
  rw [h1, h2, List.length_take, List.length_reverse, List.length_drop, hnl, Nat.zero_add, Nat.zero_add, Nat.min_eq_left ht, times_upTo, timesI_some]
  rw [show lo + (t - lo) = t by omega]
 have hun : ∀ p, (unionP (fun _ => False) ((ls.take lo).map (·.Q)) p ∨ unionP (fun _ => False) ((ls.drop lo).reverse.map (·.Q)) p) ↔ n0 ≤ p ∧ p < syms.length := fun p => by
  rw [hun1, hun2]
  constructor
  ·rintro (⟨a, ha, h⟩ | ⟨a, ha, h⟩)
   ·exact (hall a (htake a ha)).2.2 p h
   ·exact (hall a (List.mem_of_mem_drop ha)).2.2 p h
  ·rintro ⟨h1, h2⟩
   obtain ⟨a, ha, h3⟩ := C.cov p (by omega) h2
   rw [← htd] at ha
   exact (List.mem_append.1 ha).imp (fun h => ⟨a, h, h3⟩) (fun h => ⟨a, h, h3⟩)
 refine ⟨outPt z.1 syms z.2, ?_, rfl, by show z.2.length = _; rw [e2, g2, f2], e3, ?_, ?_, fun i hi p => ?_⟩
 ·unfold repTo
  rw [if_pos hk, if_pos (allOk_mk (fun x hx => by obtain ⟨a, ha, rfl⟩ := List.mem_map.1 hx; exact (hall a ha).1) C.rk)]
  have hm1 : ((ls.map (·.x)).drop lo).reverse = (ls.drop lo).reverse.map (·.x) := by rw [← List.map_drop, ← List.map_reverse]
  have hm2 : (ls.map (·.x)).take lo = (ls.take lo).map (·.x) := by rw [← List.map_take]
  rw [hm1, hm2, f1, Option.bind_some, g1, Option.bind_some, e1, Option.bind_some]
 ·have := e4; rw [g2, f2] at this; exact this
 ·exact Frag.iff e6 (fun p => (hun p).symm) rfl (fun _ => Iff.rfl) (fun _ => Iff.rfl) hlang (fun _ _ _ => Iff.rfl)
 ·have hni : ¬ (unionP (fun _ => False) ((ls.take lo).map (·.Q)) i ∨ unionP (fun _ => False) ((ls.drop lo).reverse.map (·.Q)) i) := fun h => by have := (hun i).1 h; omega
  show folR n z.2 i p ↔ _
  rw [e7 i p (fun h => hni (.inl h)), g6 i p (fun h => hni (.inl h)), f6 i p (fun h => hni (.inr h))]
end
end Go.Proofs.YthocjdlcopmhiaaDoor.G
namespace Go.Proofs.YthocjdlcopmhiaaDoor.G
open Go.RowKit Go.Proofs.YthocjdlcopmhiaaDoorW.PrintWords Go.Proofs.YthocjdlcopmhiaaDoorW.PrintLast Go.Proofs.YthocjdlcopmhiaaDoorW.PrintMore
attribute [local go_sem] max2_int min2_int max_two min_two max_three min_three max_four min_four
set_option linter.unusedVariables false
set_option linter.unusedSimpArgs false
theorem mn_min (a b : Int) : mn a b = min a b := by unfold mn; split <;> omega
theorem mx_max (a b : Int) : mx a b = max a b := by unfold mx; split <;> omega
theorem Wf.rep {x : Pr.S24} (h : Wf x) (h5 : x.f0 = 5) : x.f4.length = 1 ∧ 0 ≤ x.f2 ∧ x.f2 ≤ 1000 ∧ (x.f3 = -1 ∨ x.f2 ≤ x.f3) ∧ x.f3 ≤ 1000 := by
 cases h with
 | mk _ a _ => exact a h5
theorem Wf.kids {x : Pr.S24} (h : Wf x) (hk : x.f0 = 3 ∨ x.f0 = 4 ∨ x.f0 = 5) : ∀ y ∈ x.f4, Wf y := by
 cases h with
 | mk _ _ b => exact b hk
theorem times_ok {x : Pr.S24} (h : Wf x) (h5 : x.f0 = 5) : Pr.glush_times.f x.f0 x.f1 x.f2 x.f3 x.f4 = some ((tms x.f2 x.f3 : Nat) : Int) ∧ tms x.f2 x.f3 ≤ 1000 := by
 obtain ⟨_, h1, h2, h3, h4⟩ := h.rep h5
 unfold Pr.glush_times.f tms
 rw [mx_max]
 by_cases hm : x.f3 = -1
 ·rw [if_pos hm, if_pos hm]
  exact ⟨by congr 1; omega, by omega⟩
 ·rw [if_neg hm, if_neg hm]
  exact ⟨by congr 1; omega, by omega⟩
def PosOk (k : Nat) (e : Pr.S24) : Prop := ∀ most : Int, 0 ≤ most → most ≤ 1099511627776 → Pr.glush_Positions.f k e.f0 e.f1 e.f2 e.f3 e.f4 most = some (min ((cntE e : Nat) : Int) (most + 1))
theorem PosOk.up {k k' : Nat} {e : Pr.S24} (h : PosOk k e) (hk : k ≤ k') : PosOk k' e := fun most h0 h1 =>
 at_rounds (g := fun k => Pr.glush_Positions.f k e.f0 e.f1 e.f2 e.f3 e.f4 most) (fun k => Pr.glush_Positions.mono e.f0 e.f1 e.f2 e.f3 e.f4 most k) hk (h most h0 h1)
theorem pos_l0 (most : Int) (hm0 : 0 ≤ most) (hm1 : most ≤ 1099511627776) (l : List Pr.S24) (hl : l.length < 4611686018427387904) (hy : ∀ y ∈ l, PosOk (8 * szE y) y) : ∀ (d k i : Nat) (c : Nat), l.length = i + d → 8 * szL (l.drop i) + 1 ≤ k →
  Pr.glush_Positions.l0 k most (most + 1) (min (c : Int) (most + 1)) l (l.length : Int) (i : Int) = some (min ((c + cntL (l.drop i) : Nat) : Int) (most + 1)) := by
 intro d
 induction d with
 | zero =>
  intro k i c he hk
  obtain ⟨k, rfl⟩ : ∃ q, k = q + 1 := ⟨k - 1, by omega⟩
  rw [List.drop_of_length_le (by omega)]
  simp only [Pr.glush_Positions.l0, cntL]
  rw [if_neg (by omega)]
  simp
 | succ d ih =>
  intro k i c he hk
  obtain ⟨k, rfl⟩ : ∃ q, k = q + 1 := ⟨k - 1, by omega⟩
  have hi : i < l.length := by omega
  have hd : l.drop i = l[i] :: l.drop (i + 1) := List.drop_eq_getElem_cons hi
  rw [hd] at hk ⊢
  simp only [szL] at hk
  simp only [cntL]
  have hrd : Pr.rd_T24 l (i : Int) = l[i] := rd24_at (List.getElem?_eq_getElem hi)
  have hw : wrap64 ((i : Int) + 1) = ((i + 1 : Nat) : Int) := by unfold wrap64; omega
  have hf := (hy l[i] (List.getElem_mem hi)).up (show 8 * szE l[i] ≤ k by omega) most hm0 hm1
  have hih := ih k (i + 1) (c + cntE l[i]) (by omega) (by have := szE_pos l[i]; omega)
  simp only [Pr.glush_Positions.l0]
  rw [if_pos (by omega), if_pos (by omega), if_pos (by omega), hrd, hf, Option.bind_some, hw, mn_min]
  have hs : min (wrap64 (min (c : Int) (most + 1) + min ((cntE l[i] : Nat) : Int) (most + 1))) (most + 1) = min ((c + cntE l[i] : Nat) : Int) (most + 1) := by
   have : wrap64 (min (c : Int) (most + 1) + min ((cntE l[i] : Nat) : Int) (most + 1)) = min (c : Int) (most + 1) + min ((cntE l[i] : Nat) : Int) (most + 1) := by unfold wrap64; omega
   rw [this]; omega
  rw [hs, hih, Nat.add_assoc]
theorem mul_cut (c t : Nat) (p : Int) (hp : 1 ≤ p) (hc : 0 < c) (ht : 0 < t) (h : min (c : Int) p ≤ p / (t : Int)) : min (c : Int) p * (t : Int) = min ((c * t : Nat) : Int) p := by
 have h1 : min (c : Int) p * (t : Int) ≤ p := by
  have h2 : min (c : Int) p * (t : Int) ≤ p / (t : Int) * (t : Int) := Int.mul_le_mul_of_nonneg_right h (by omega)
  have h3 : p / (t : Int) * (t : Int) ≤ p := Int.ediv_mul_le p (by omega)
  omega
 by_cases hcp : (c : Int) ≤ p
 ·have e : min (c : Int) p = c := by omega
  rw [e] at h1 ⊢
  rw [Int.natCast_mul]
  omega
 ·have e : min (c : Int) p = p := by omega
  rw [e] at h h1 ⊢
  have ht1 : t = 1 := by
   by_cases h2 : t = 1
   ·exact h2
   ·have h3 : p / (t : Int) ≤ p / 2 := by
     have h4 : (2 : Int) ≤ t := by omega
     have h5 : p / (t : Int) * t ≤ p := Int.ediv_mul_le p (by omega)
     have h6 : 0 ≤ p / (t : Int) := Int.ediv_nonneg (by omega) (by omega)
     have h7 : p / (t : Int) * 2 ≤ p / (t : Int) * t := Int.mul_le_mul_of_nonneg_left h4 h6
     omega
    omega
  subst ht1
  simp
  omega
theorem mul_over (c t : Nat) (p : Int) (hp : 1 ≤ p) (ht : 0 < t) (h : p / (t : Int) < min (c : Int) p) : min ((c * t : Nat) : Int) p = p := by
 have h1 : p < (p / (t : Int) + 1) * (t : Int) := by
  have := Int.lt_ediv_add_one_mul_self p (show (0 : Int) < t by omega)
  exact this
 have h2 : (p / (t : Int) + 1) * (t : Int) ≤ (c : Int) * (t : Int) := Int.mul_le_mul_of_nonneg_right (by omega) (by omega)
 rw [Int.natCast_mul]
 omega
theorem szL_len : ∀ l : List Pr.S24, l.length ≤ szL l
 | [] => by simp [szL]
 | x :: l => by have := szL_len l; have := szE_pos x; simp only [szL, List.length_cons]; omega
theorem pos_ok : ∀ (n : Nat) (e : Pr.S24), szE e ≤ n → szE e ≤ 1000000 → Wf e → PosOk (8 * szE e) e
 | 0, e, h, _, _ => by have := szE_pos e; omega
 | n + 1, e, h, hb, hw => by
  intro most hm0 hm1
  have hs := szE_eq e
  have hl := szL_len e.f4
  have hp : mn (mx most 0) 1099511627776 + 1 = most + 1 := by rw [mn_min, mx_max]; omega
  have hk8 : 8 * szE e = (8 * szL e.f4 + 5) + 1 + 1 + 1 := by omega
  have hkid : (e.f0 = 3 ∨ e.f0 = 4 ∨ e.f0 = 5) → ∀ y ∈ e.f4, PosOk (8 * szE y) y := fun hk y hy => pos_ok n y (by have := szL_mem hy; omega) (by have := szL_mem hy; omega) (hw.kids hk y hy)
  rw [hk8]
  simp only [Pr.glush_Positions.f, hp]
  rw [cntE_eq]
  by_cases h2 : e.f0 = 2
  ·rw [if_pos h2, if_pos h2]
   congr 1; omega
  ·rw [if_neg h2, if_neg h2]
   have l0 := fun (hk : e.f0 = 3 ∨ e.f0 = 4 ∨ e.f0 = 5) => pos_l0 most hm0 hm1 e.f4 (by omega) (hkid hk) e.f4.length (8 * szL e.f4 + 5 + 1) 0 0 (by omega) (by rw [List.drop_zero]; omega)
   have z0 : min ((0 : Nat) : Int) (most + 1) = 0 := by omega
   by_cases h3 : e.f0 = 3
   ·rw [if_pos h3, if_pos h3]
    simp only [Pr.glush_Positions.j0, h3, beq_self_eq_true, if_true]
    have := l0 (.inl h3)
    rw [z0, List.drop_zero, Nat.zero_add] at this
    exact this
   ·rw [if_neg h3, if_neg h3]
    by_cases h4 : e.f0 = 4
    ·rw [if_pos h4]
     simp only [Pr.glush_Positions.j0, h4, beq_self_eq_true, if_true]
     have := l0 (.inr (.inl h4))
     rw [z0, List.drop_zero, Nat.zero_add] at this
     exact this
    ·rw [if_neg h4]
     have hb4 : (e.f0 == 4) = false := by simpa using h4
     simp only [Pr.glush_Positions.j0, hb4, Bool.false_eq_true, if_false]
     by_cases h5 : e.f0 = 5
     ·rw [if_pos h5, if_pos h5]
      obtain ⟨ht, ht2⟩ := times_ok hw h5
      obtain ⟨hlen, _⟩ := hw.rep h5
      rw [ht, Option.bind_some]
      generalize tms e.f2 e.f3 = t at ht2 ⊢
      cases hf : e.f4 with
      | nil => rw [hf] at hlen; cases hlen
      | cons y l' =>
       have hl' : l' = [] := by rw [hf] at hlen; simpa using hlen
       subst hl'
       have hy := (hkid (.inr (.inr h5)) y (by rw [hf]; exact List.mem_cons_self)).up (show 8 * szE y ≤ 8 * szL [y] + 5 by simp only [szL]; omega) most hm0 hm1
       have hrd : Pr.rd_T24 [y] 0 = y := rfl
       have hw1 : wrap64 ((0 : Int) + 1) = 1 := by unfold wrap64; omega
       simp only [Pr.glush_Positions.l1, List.length_singleton, hrd, hw1]
       rw [if_pos (by omega), if_pos (by omega), if_pos (by omega), hy, Option.bind_some]
       simp only [cntL, Nat.add_zero]
       generalize hc : cntE y = c
       by_cases hc0 : min (c : Int) (most + 1) ≤ 0
       ·rw [if_pos hc0]
        simp only [Pr.glush_Positions.j3, Pr.glush_Positions.l1, hw1, if_true]
        rw [if_neg (by omega)]
        have : c = 0 := by omega
        rw [this, Nat.zero_mul]
        congr 1; omega
       ·rw [if_neg hc0]
        by_cases ht0 : (t : Int) ≤ 0
        ·rw [decide_eq_true ht0]
         simp only [Pr.glush_Positions.j3, Pr.glush_Positions.l1, hw1, if_true]
         rw [if_neg (by omega)]
         have : t = 0 := by omega
         rw [this, Nat.mul_zero]
         congr 1; omega
        ·rw [decide_eq_false ht0]
         have htd : Int.tdiv (most + 1) (t : Int) = (most + 1) / (t : Int) := Int.tdiv_eq_ediv_of_nonneg (by omega)
         have hq0 : 0 ≤ (most + 1) / (t : Int) := Int.ediv_nonneg (by omega) (by omega)
         have hq1 : (most + 1) / (t : Int) ≤ most + 1 := Int.ediv_le_self _ (by omega)
         have hwd : wrap64 ((most + 1) / (t : Int)) = (most + 1) / (t : Int) := by unfold wrap64; omega
         simp only [Pr.glush_Positions.j3, Bool.false_eq_true, if_false, htd, hwd, hw1]
         rw [if_neg (by omega)]
         by_cases hov : min (c : Int) (most + 1) > (most + 1) / (t : Int)
         ·rw [if_pos hov]
          simp only [Pr.glush_Positions.l1]
          rw [if_neg (by omega), mul_over c t (most + 1) (by omega) (by omega) hov]
         ·rw [if_neg hov]
          have hmc := mul_cut c t (most + 1) (by omega) (by omega) (by omega) (by omega)
          have hmul : min (c : Int) (most + 1) * (t : Int) ≤ most + 1 := by rw [hmc]; omega
          have hmul0 : 0 ≤ min (c : Int) (most + 1) * (t : Int) := by rw [hmc]; omega
          have hwm : wrap64 (min (c : Int) (most + 1) * (t : Int)) = min (c : Int) (most + 1) * (t : Int) := by unfold wrap64; omega
          have hwa : wrap64 (0 + min (c : Int) (most + 1) * (t : Int)) = min (c : Int) (most + 1) * (t : Int) := by rw [Int.zero_add]; exact hwm
          rw [hwm, hwa, mn_min]
          simp only [Pr.glush_Positions.l1]
          rw [if_neg (by omega), hmc]
          congr 1; omega
     ·rw [if_neg h5, if_neg h5]
      congr 1; omega
end Go.Proofs.YthocjdlcopmhiaaDoor.G
namespace Go.Proofs.YthocjdlcopmhiaaDoor.G
open Go.RowKit Go.Proofs.YthocjdlcopmhiaaDoorW.PrintWords Go.Proofs.YthocjdlcopmhiaaDoorW.PrintLast Go.Proofs.YthocjdlcopmhiaaDoorW.PrintMore
attribute [local go_sem] max2_int min2_int max_two min_two max_three min_three max_four min_four
set_option linter.unusedVariables false
set_option linter.unusedSimpArgs false
mutual
def ofE : Pr.S24 → Pr.S45
 | ⟨a, b, c, d, l⟩ => ⟨a, b, c, d, ofL l⟩
def ofL : List Pr.S24 → List Pr.S45
 | [] => []
 | x :: l => ofE x :: ofL l
end
theorem ofE_eq (x : Pr.S24) : ofE x = ⟨x.f0, x.f1, x.f2, x.f3, ofL x.f4⟩ := by cases x; simp only [ofE]
theorem ofL_map : ∀ l : List Pr.S24, ofL l = l.map ofE
 | [] => by simp [ofL]
 | x :: l => by simp [ofL, ofL_map l]
theorem ofL_len (l : List Pr.S24) : (ofL l).length = l.length := by rw [ofL_map, List.length_map]
theorem rd45_at {l : List Pr.S24} {j : Nat} {y : Pr.S24} (h : l[j]? = some y) : Pr.rd_T45 (ofL l) (j : Int) = ofE y := by
 unfold Pr.rd_T45
 rw [Int.toNat_natCast, List.getD_eq_getElem?_getD, ofL_map, List.getElem?_map, h]
 rfl
theorem cntL_take {l : List Pr.S24} {i : Nat} {y : Pr.S24} (h : l[i]? = some y) : cntL (l.take (i + 1)) = cntL (l.take i) + cntE y := by
 have hi : i < l.length := (List.getElem?_eq_some_iff.1 h).1
 have e : l[i] = y := (List.getElem?_eq_some_iff.1 h).2
 rw [List.take_succ_eq_append_getElem hi, e]
 generalize l.take i = t
 induction t with
 | nil => simp [cntL]
 | cons x t ih => simp only [List.cons_append, cntL, ih]; omega
abbrev E45 (e : Pr.S24) (A : Option Addr) (c : Nat) : Value := .agg #[.int .i64 e.f0, .int .i64 e.f1, .int .i64 e.f2, .int .i64 e.f3, .slice A (ofL e.f4).length c]
abbrev C45 (e : Pr.S24) (A : Option Addr) (c : Nat) : Obj := .cells #[.int .i64 e.f0, .int .i64 e.f1, .int .i64 e.f2, .int .i64 e.f3, .slice A (ofL e.f4).length c] 45 (0, 0)
def RefOk (e : Pr.S24) : Prop := ∀ (w : World) (A : Option Addr) (c : Nat), Kd.C Pr.k45 w A (ofL e.f4).length (ofL e.f4) → Calls Tryd.prog 17 #[E45 e A c, .int .i64 200] w fun en w' => en = .returned (.int .i64 (min ((cntE e : Nat) : Int) 201)) ∧ Below w.heap.size w w'
theorem cls5 {w : World} {g : Nat} {t : TypeId} {v0 v1 v2 v3 v4 : Value} (h : w.heap[g]? = some (.cells #[v0, v1, v2, v3, v4] t (0, 0))) : w.cell? ⟨g, 0, none⟩ = some v0 ∧ w.cell? ⟨g, 1, none⟩ = some v1 ∧ w.cell? ⟨g, 2, none⟩ = some v2 ∧ w.cell? ⟨g, 3, none⟩ = some v3 ∧ w.cell? ⟨g, 4, none⟩ = some v4 :=
 ⟨(blk_cell h 0).trans rfl, (blk_cell h 1).trans rfl, (blk_cell h 2).trans rfl, (blk_cell h 3).trans rfl, (blk_cell h 4).trans rfl⟩
set_option maxHeartbeats 4000000 in
set_option maxRecDepth 100000 in
theorem ref_two (e : Pr.S24) (hk : e.f0 = 2) : RefOk e := by
 intro w A c hC
 have hu45 := Tryd.underlying45
 have HC := Lib.hid hC; clear hC
 have b2 : (e.f0 == 2) = true := by rw [hk]; rfl
 have b3 : (e.f0 == 3) = false := by rw [beq_eq_false_iff_ne]; omega
 have b4 : (e.f0 == 4) = false := by rw [beq_eq_false_iff_ne]; omega
 have b5 : (e.f0 == 5) = false := by rw [beq_eq_false_iff_ne]; omega
 have HK := Lib.hid hk; clear hk
 go_enter Tryd.func17, Tryd.ntmps17
 go_upto_region 1 with (fail)
 have hb := below_alloc (Below.refl w.heap.size w) (C45 e A c)
 have KE := Lib.hid (show (w.alloc (C45 e A c)).heap[w.heap.size]? = some (C45 e A c) from blk_new w _)
 generalize w.alloc (C45 e A c) = w1 at hb KE ⊢
 have HB := Lib.hid hb; clear hb
 obtain ⟨x0, x1, x2, x3, x4⟩ := cls5 KE.out
 go_wp2_with (fail)
 go_ret
 have hk := HK.out
 exact ⟨by rw [cntE_eq]; rw [if_pos hk]; rfl, HB.out⟩
set_option maxHeartbeats 4000000 in
set_option maxRecDepth 100000 in
theorem ref_none (e : Pr.S24) (hk : e.f0 ≠ 2 ∧ e.f0 ≠ 3 ∧ e.f0 ≠ 4 ∧ e.f0 ≠ 5) : RefOk e := by
 intro w A c hC
 have hu45 := Tryd.underlying45
 have HC := Lib.hid hC; clear hC
 have b2 : (e.f0 == 2) = false := by rw [beq_eq_false_iff_ne]; omega
 have b3 : (e.f0 == 3) = false := by rw [beq_eq_false_iff_ne]; omega
 have b4 : (e.f0 == 4) = false := by rw [beq_eq_false_iff_ne]; omega
 have b5 : (e.f0 == 5) = false := by rw [beq_eq_false_iff_ne]; omega
 have HK := Lib.hid hk; clear hk
 go_enter Tryd.func17, Tryd.ntmps17
 go_upto_region 1 with (fail)
 have hb := below_alloc (Below.refl w.heap.size w) (C45 e A c)
 have KE := Lib.hid (show (w.alloc (C45 e A c)).heap[w.heap.size]? = some (C45 e A c) from blk_new w _)
 generalize w.alloc (C45 e A c) = w1 at hb KE ⊢
 have HB := Lib.hid hb; clear hb
 obtain ⟨x0, x1, x2, x3, x4⟩ := cls5 KE.out
 go_wp2_with (fail)
 go_ret
 have hk := HK.out
 exact ⟨by rw [cntE_eq]; rw [if_neg hk.1, if_neg hk.2.1, if_neg hk.2.2.1, if_neg hk.2.2.2]; rfl, HB.out⟩
set_option maxHeartbeats 8000000 in
set_option maxRecDepth 100000 in
theorem ref_seq (e : Pr.S24) (hk : e.f0 = 3) (hl : e.f4.length < 1000000) (hy : ∀ y ∈ e.f4, RefOk y) : RefOk e := by
 intro w A c hC
 have hu45 := Tryd.underlying45
 have HC := Lib.hid hC; clear hC
 have b2 : (e.f0 == 2) = false := by rw [beq_eq_false_iff_ne]; omega
 have b3 : (e.f0 == 3) = true := by rw [hk]; rfl
 have b4 : (e.f0 == 4) = false := by rw [beq_eq_false_iff_ne]; omega
 have b5 : (e.f0 == 5) = false := by rw [beq_eq_false_iff_ne]; omega
 have HK := Lib.hid hk; clear hk
 go_enter Tryd.func17, Tryd.ntmps17
 have HY := Lib.hid hy; clear hy
 have HL := Lib.hid hl; clear hl
 have hlen : (ofL e.f4).length = e.f4.length := ofL_len _
 rw [hlen] at HC
 generalize hN : e.f4.length = n at HC HL
 rw [hN] at hlen
 have HNN := Lib.hid hN; clear hN
 go_upto_region 1 with (fail)
 have hb := below_alloc (Below.refl w.heap.size w) (.cells #[.int .i64 e.f0, .int .i64 e.f1, .int .i64 e.f2, .int .i64 e.f3, .slice A n c] 45)
 have KE := Lib.hid (show (w.alloc (.cells #[.int .i64 e.f0, .int .i64 e.f1, .int .i64 e.f2, .int .i64 e.f3, .slice A n c] 45)).heap[w.heap.size]? = some (.cells #[.int .i64 e.f0, .int .i64 e.f1, .int .i64 e.f2, .int .i64 e.f3, .slice A n c] 45 (0, 0)) from blk_new w _)
 generalize w.alloc (.cells #[.int .i64 e.f0, .int .i64 e.f1, .int .i64 e.f2, .int .i64 e.f3, .slice A n c] 45) = w1 at hb KE ⊢
 have HB := Lib.hid hb; clear hb
 clear hlen
 obtain ⟨x0, x1, x2, x3, x4⟩ := cls5 KE.out
 go_upto_region 9 with (fail)
 clear x0 x1 x2 x3 x4
 go_loopg [5, 6] (n + 1) (fun kq v5 v6 w' => ∃ (i : Nat), v6 = .int .i64 i ∧ v5 = .int .i64 (min ((cntL (e.f4.take i) : Nat) : Int) 201) ∧ Hid (i ≤ n) ∧ Hid (kq = n + 1 - i) ∧ Hid (w'.heap[w.heap.size]? = some (.cells #[.int .i64 e.f0, .int .i64 e.f1, .int .i64 e.f2, .int .i64 e.f3, .slice A n c] 45 (0, 0))) ∧ Hid (Below w.heap.size w w'))
 case atStart => exact ⟨0, rfl, by rw [List.take_zero]; rfl, Lib.hid (Nat.zero_le _), Lib.hid rfl, KE, HB⟩
 case round =>
  obtain ⟨i, rfl, rfl, HI, HQ, KEi, HBi⟩ := hrel
  clear KE HB
  obtain ⟨x0, x1, x2, x3, x4⟩ := cls5 KEi.out
  by_cases hlt : i < n
  ·have hlt2 : decide ((i : Int) < (n : Int)) = true := decide_eq_true (by omega)
   have HLT := Lib.hid hlt
   have hyi : e.f4[i]? = some (e.f4[i]'(by rw [HNN.out]; exact hlt)) := List.getElem?_eq_getElem _
   generalize e.f4[i]'(by rw [HNN.out]; exact hlt) = y at hyi
   have HYI := Lib.hid hyi
   obtain ⟨ad, A4, c4, rfl, z0, z1, z2, z3, z4, _, z5⟩ := Pr.at_T45 (Kd.C_below HC.out HBi.out) (i : Int) (by omega) (by omega)
   rw [rd45_at hyi, ofE_eq] at z0 z1 z2 z3 z4 z5
   rw [Int.toNat_natCast] at z0 z1 z2 z3 z4
   have HZ5 := Lib.hid z5
   have hp0 : (0 ≤ (i : Int)) = True := eq_true (by omega)
   have hp1 : ((i : Int) < (n : Int)) = True := eq_true (by omega)
   have hw : wrap64 ((i : Int) + 1) = ((i + 1 : Nat) : Int) := by have := HL.out; unfold wrap64; omega
   have hct := cntL_take hyi
   clear hyi z5 hlt
   go_wp2_with (fail)
   refine (HY.out y (List.mem_of_getElem? HYI.out) wr A4 c4 HZ5.out).mono ?_
   rintro e' w3 ⟨rfl, hb3⟩
   clear x0 x1 x2 x3 x4 z0 z1 z2 z3 z4
   have HB3 := Lib.hid (below_step HBi.out hb3); have KE3 := Lib.hid (blk_below KEi.out hb3)
   clear hb3 HBi KEi
   generalize ha : cntL (e.f4.take i) = a at hct ⊢
   generalize hd : cntE y = d at hct ⊢
   have hadd : wrap64 (min (a : Int) 201 + min (d : Int) 201) = min (a : Int) 201 + min (d : Int) 201 := by unfold wrap64; omega
   by_cases hg : (200 : Int) < min (a : Int) 201 + min (d : Int) 201
   ·have hg2 : decide ((200 : Int) < min (a : Int) 201 + min (d : Int) 201) = true := decide_eq_true hg
    have HG := Lib.hid hg
    clear hg
    go_wp2_with (fail)
    go_roundg (n + 1 - (i + 1))
    case measure => have h1 := HLT.out; have h2 := HQ.out; omega
    case rel => exact ⟨i + 1, by rw [hw], (by rw [hct]; have := HG.out; congr 1; omega), Lib.hid (by have := HLT.out; omega), Lib.hid rfl, KE3, HB3⟩
   ·have hg2 : decide ((200 : Int) < min (a : Int) 201 + min (d : Int) 201) = false := decide_eq_false hg
    have HG := Lib.hid hg
    clear hg
    go_wp2_with (fail)
    go_roundg (n + 1 - (i + 1))
    case measure => have h1 := HLT.out; have h2 := HQ.out; omega
    case rel => exact ⟨i + 1, by rw [hw], (by rw [hct]; have := HG.out; congr 1; omega), Lib.hid (by have := HLT.out; omega), Lib.hid rfl, KE3, HB3⟩
  ·have hi : i = n := by have := HI.out; omega
   subst hi
   have hlt2 : decide ((i : Int) < (i : Int)) = false := decide_eq_false (by omega)
   have hall : e.f4.take i = e.f4 := List.take_of_length_le (by rw [HNN.out]; exact Nat.le_refl _)
   rw [hall]
   have hle : decide ((200 : Int) < min ((cntL e.f4 : Nat) : Int) 201) = decide (200 < cntL e.f4) := by congr 1; apply propext; omega
   by_cases hov : 200 < cntL e.f4
   ·have ho : decide ((200 : Int) < min ((cntL e.f4 : Nat) : Int) 201) = true := decide_eq_true (by omega)
    clear hle
    go_wp2_with (fail)
    go_ret
    have hk := HK.out
    exact ⟨by rw [cntE_eq]; simp only [hk]; simp; omega, HBi.out⟩
   ·have ho : decide ((200 : Int) < min ((cntL e.f4 : Nat) : Int) 201) = false := decide_eq_false (by omega)
    clear hle
    go_wp2_with (fail)
    go_ret
    have hk := HK.out
    exact ⟨by rw [cntE_eq]; simp only [hk]; simp, HBi.out⟩
set_option maxHeartbeats 8000000 in
set_option maxRecDepth 100000 in
theorem ref_alt (e : Pr.S24) (hk : e.f0 = 4) (hl : e.f4.length < 1000000) (hy : ∀ y ∈ e.f4, RefOk y) : RefOk e := by
 intro w A c hC
 have hu45 := Tryd.underlying45
 have HC := Lib.hid hC; clear hC
 have b2 : (e.f0 == 2) = false := by rw [beq_eq_false_iff_ne]; omega
 have b3 : (e.f0 == 3) = false := by rw [beq_eq_false_iff_ne]; omega
 have b4 : (e.f0 == 4) = true := by rw [hk]; rfl
 have b5 : (e.f0 == 5) = false := by rw [beq_eq_false_iff_ne]; omega
 have HK := Lib.hid hk; clear hk
 go_enter Tryd.func17, Tryd.ntmps17
 have HY := Lib.hid hy; clear hy
 have HL := Lib.hid hl; clear hl
 have hlen : (ofL e.f4).length = e.f4.length := ofL_len _
 rw [hlen] at HC
 generalize hN : e.f4.length = n at HC HL
 rw [hN] at hlen
 have HNN := Lib.hid hN; clear hN
 go_upto_region 1 with (fail)
 have hb := below_alloc (Below.refl w.heap.size w) (.cells #[.int .i64 e.f0, .int .i64 e.f1, .int .i64 e.f2, .int .i64 e.f3, .slice A n c] 45)
 have KE := Lib.hid (show (w.alloc (.cells #[.int .i64 e.f0, .int .i64 e.f1, .int .i64 e.f2, .int .i64 e.f3, .slice A n c] 45)).heap[w.heap.size]? = some (.cells #[.int .i64 e.f0, .int .i64 e.f1, .int .i64 e.f2, .int .i64 e.f3, .slice A n c] 45 (0, 0)) from blk_new w _)
 generalize w.alloc (.cells #[.int .i64 e.f0, .int .i64 e.f1, .int .i64 e.f2, .int .i64 e.f3, .slice A n c] 45) = w1 at hb KE ⊢
 have HB := Lib.hid hb; clear hb
 clear hlen
 obtain ⟨x0, x1, x2, x3, x4⟩ := cls5 KE.out
 go_upto_region 9 with (fail)
 clear x0 x1 x2 x3 x4
 go_loopg [5, 6] (n + 1) (fun kq v5 v6 w' => ∃ (i : Nat), v6 = .int .i64 i ∧ v5 = .int .i64 (min ((cntL (e.f4.take i) : Nat) : Int) 201) ∧ Hid (i ≤ n) ∧ Hid (kq = n + 1 - i) ∧ Hid (w'.heap[w.heap.size]? = some (.cells #[.int .i64 e.f0, .int .i64 e.f1, .int .i64 e.f2, .int .i64 e.f3, .slice A n c] 45 (0, 0))) ∧ Hid (Below w.heap.size w w'))
 case atStart => exact ⟨0, rfl, by rw [List.take_zero]; rfl, Lib.hid (Nat.zero_le _), Lib.hid rfl, KE, HB⟩
 case round =>
  obtain ⟨i, rfl, rfl, HI, HQ, KEi, HBi⟩ := hrel
  clear KE HB
  obtain ⟨x0, x1, x2, x3, x4⟩ := cls5 KEi.out
  by_cases hlt : i < n
  ·have hlt2 : decide ((i : Int) < (n : Int)) = true := decide_eq_true (by omega)
   have HLT := Lib.hid hlt
   have hyi : e.f4[i]? = some (e.f4[i]'(by rw [HNN.out]; exact hlt)) := List.getElem?_eq_getElem _
   generalize e.f4[i]'(by rw [HNN.out]; exact hlt) = y at hyi
   have HYI := Lib.hid hyi
   obtain ⟨ad, A4, c4, rfl, z0, z1, z2, z3, z4, _, z5⟩ := Pr.at_T45 (Kd.C_below HC.out HBi.out) (i : Int) (by omega) (by omega)
   rw [rd45_at hyi, ofE_eq] at z0 z1 z2 z3 z4 z5
   rw [Int.toNat_natCast] at z0 z1 z2 z3 z4
   have HZ5 := Lib.hid z5
   have hp0 : (0 ≤ (i : Int)) = True := eq_true (by omega)
   have hp1 : ((i : Int) < (n : Int)) = True := eq_true (by omega)
   have hw : wrap64 ((i : Int) + 1) = ((i + 1 : Nat) : Int) := by have := HL.out; unfold wrap64; omega
   have hct := cntL_take hyi
   clear hyi z5 hlt
   go_wp2_with (fail)
   refine (HY.out y (List.mem_of_getElem? HYI.out) wr A4 c4 HZ5.out).mono ?_
   rintro e' w3 ⟨rfl, hb3⟩
   clear x0 x1 x2 x3 x4 z0 z1 z2 z3 z4
   have HB3 := Lib.hid (below_step HBi.out hb3); have KE3 := Lib.hid (blk_below KEi.out hb3)
   clear hb3 HBi KEi
   generalize ha : cntL (e.f4.take i) = a at hct ⊢
   generalize hd : cntE y = d at hct ⊢
   have hadd : wrap64 (min (a : Int) 201 + min (d : Int) 201) = min (a : Int) 201 + min (d : Int) 201 := by unfold wrap64; omega
   by_cases hg : (200 : Int) < min (a : Int) 201 + min (d : Int) 201
   ·have hg2 : decide ((200 : Int) < min (a : Int) 201 + min (d : Int) 201) = true := decide_eq_true hg
    have HG := Lib.hid hg
    clear hg
    go_wp2_with (fail)
    go_roundg (n + 1 - (i + 1))
    case measure => have h1 := HLT.out; have h2 := HQ.out; omega
    case rel => exact ⟨i + 1, by rw [hw], (by rw [hct]; have := HG.out; congr 1; omega), Lib.hid (by have := HLT.out; omega), Lib.hid rfl, KE3, HB3⟩
   ·have hg2 : decide ((200 : Int) < min (a : Int) 201 + min (d : Int) 201) = false := decide_eq_false hg
    have HG := Lib.hid hg
    clear hg
    go_wp2_with (fail)
    go_roundg (n + 1 - (i + 1))
    case measure => have h1 := HLT.out; have h2 := HQ.out; omega
    case rel => exact ⟨i + 1, by rw [hw], (by rw [hct]; have := HG.out; congr 1; omega), Lib.hid (by have := HLT.out; omega), Lib.hid rfl, KE3, HB3⟩
  ·have hi : i = n := by have := HI.out; omega
   subst hi
   have hlt2 : decide ((i : Int) < (i : Int)) = false := decide_eq_false (by omega)
   have hall : e.f4.take i = e.f4 := List.take_of_length_le (by rw [HNN.out]; exact Nat.le_refl _)
   rw [hall]
   have hle : decide ((200 : Int) < min ((cntL e.f4 : Nat) : Int) 201) = decide (200 < cntL e.f4) := by congr 1; apply propext; omega
   by_cases hov : 200 < cntL e.f4
   ·have ho : decide ((200 : Int) < min ((cntL e.f4 : Nat) : Int) 201) = true := decide_eq_true (by omega)
    clear hle
    go_wp2_with (fail)
    go_ret
    have hk := HK.out
    exact ⟨by rw [cntE_eq]; simp only [hk]; simp; omega, HBi.out⟩
   ·have ho : decide ((200 : Int) < min ((cntL e.f4 : Nat) : Int) 201) = false := decide_eq_false (by omega)
    clear hle
    go_wp2_with (fail)
    go_ret
    have hk := HK.out
    exact ⟨by rw [cntE_eq]; simp only [hk]; simp, HBi.out⟩
theorem rep_cut (c t : Nat) (ht : t ≤ 1000) : 0 ≤ min (c : Int) 201 * (t : Int) ∧ min (c : Int) 201 * (t : Int) ≤ 201000 ∧ min (min (c : Int) 201 * (t : Int)) 201 = min ((c * t : Nat) : Int) 201 := by
 have h0 : 0 ≤ min (c : Int) 201 * (t : Int) := Int.mul_nonneg (by omega) (by omega)
 have h1 : min (c : Int) 201 * (t : Int) ≤ 201 * (t : Int) := Int.mul_le_mul_of_nonneg_right (by omega) (by omega)
 refine ⟨h0, by omega, ?_⟩
 by_cases hc : (c : Int) ≤ 201
 ·have e : min (c : Int) 201 = c := by omega
  rw [e, Int.natCast_mul]
 ·have e : min (c : Int) 201 = 201 := by omega
  have h2 : 201 * (t : Int) ≤ (c : Int) * (t : Int) := Int.mul_le_mul_of_nonneg_right (by omega) (by omega)
  rw [e, Int.natCast_mul]
  by_cases ht0 : t = 0
  ·subst ht0; simp
  ·omega
set_option maxHeartbeats 8000000 in
set_option maxRecDepth 100000 in
theorem ref_rep (e : Pr.S24) (hk : e.f0 = 5) (hl : e.f4.length < 1000000) (hy : ∀ y ∈ e.f4, RefOk y) (hw : 0 ≤ e.f2 ∧ (e.f3 = -1 ∨ e.f2 ≤ e.f3)) (ht : tms e.f2 e.f3 ≤ 1000) : RefOk e := by
 intro w A c hC
 have hu45 := Tryd.underlying45
 have HC := Lib.hid hC; clear hC
 have b2 : (e.f0 == 2) = false := by rw [beq_eq_false_iff_ne]; omega
 have b3 : (e.f0 == 3) = false := by rw [beq_eq_false_iff_ne]; omega
 have b4 : (e.f0 == 4) = false := by rw [beq_eq_false_iff_ne]; omega
 have b5 : (e.f0 == 5) = true := by rw [hk]; rfl
 have HK := Lib.hid hk; clear hk
 go_enter Tryd.func17, Tryd.ntmps17
 have HY := Lib.hid hy; clear hy
 have HW := Lib.hid hw; clear hw
 have HT := Lib.hid ht; clear ht
 have HL := Lib.hid hl; clear hl
 have hlen : (ofL e.f4).length = e.f4.length := ofL_len _
 rw [hlen] at HC
 generalize hN : e.f4.length = n at HC HL
 rw [hN] at hlen
 have HNN := Lib.hid hN; clear hN
 go_upto_region 1 with (fail)
 have hb := below_alloc (Below.refl w.heap.size w) (.cells #[.int .i64 e.f0, .int .i64 e.f1, .int .i64 e.f2, .int .i64 e.f3, .slice A n c] 45)
 have KE := Lib.hid (show (w.alloc (.cells #[.int .i64 e.f0, .int .i64 e.f1, .int .i64 e.f2, .int .i64 e.f3, .slice A n c] 45)).heap[w.heap.size]? = some (.cells #[.int .i64 e.f0, .int .i64 e.f1, .int .i64 e.f2, .int .i64 e.f3, .slice A n c] 45 (0, 0)) from blk_new w _)
 generalize w.alloc (.cells #[.int .i64 e.f0, .int .i64 e.f1, .int .i64 e.f2, .int .i64 e.f3, .slice A n c] 45) = w1 at hb KE ⊢
 have HB := Lib.hid hb; clear hb
 clear hlen
 obtain ⟨x0, x1, x2, x3, x4⟩ := cls5 KE.out
 go_upto_region 9 with (fail)
 clear x0 x1 x2 x3 x4
 go_loopg [5, 6] (n + 1) (fun kq v5 v6 w' => ∃ (i : Nat), v6 = .int .i64 i ∧ v5 = .int .i64 (min ((cntL (e.f4.take i) : Nat) : Int) 201) ∧ Hid (i ≤ n) ∧ Hid (kq = n + 1 - i) ∧ Hid (w'.heap[w.heap.size]? = some (.cells #[.int .i64 e.f0, .int .i64 e.f1, .int .i64 e.f2, .int .i64 e.f3, .slice A n c] 45 (0, 0))) ∧ Hid (Below w.heap.size w w'))
 case atStart => exact ⟨0, rfl, by rw [List.take_zero]; rfl, Lib.hid (Nat.zero_le _), Lib.hid rfl, KE, HB⟩
 case round =>
  obtain ⟨i, rfl, rfl, HI, HQ, KEi, HBi⟩ := hrel
  clear KE HB
  obtain ⟨x0, x1, x2, x3, x4⟩ := cls5 KEi.out
  by_cases hlt : i < n
  ·have hlt2 : decide ((i : Int) < (n : Int)) = true := decide_eq_true (by omega)
   have HLT := Lib.hid hlt
   have hyi : e.f4[i]? = some (e.f4[i]'(by rw [HNN.out]; exact hlt)) := List.getElem?_eq_getElem _
   generalize e.f4[i]'(by rw [HNN.out]; exact hlt) = y at hyi
   have HYI := Lib.hid hyi
   obtain ⟨ad, A4, c4, rfl, z0, z1, z2, z3, z4, _, z5⟩ := Pr.at_T45 (Kd.C_below HC.out HBi.out) (i : Int) (by omega) (by omega)
   rw [rd45_at hyi, ofE_eq] at z0 z1 z2 z3 z4 z5
   rw [Int.toNat_natCast] at z0 z1 z2 z3 z4
   have HZ5 := Lib.hid z5
   have hp0 : (0 ≤ (i : Int)) = True := eq_true (by omega)
   have hp1 : ((i : Int) < (n : Int)) = True := eq_true (by omega)
   have hw : wrap64 ((i : Int) + 1) = ((i + 1 : Nat) : Int) := by have := HL.out; unfold wrap64; omega
   have hct := cntL_take hyi
   clear hyi z5 hlt
   go_wp2_with (fail)
   refine (HY.out y (List.mem_of_getElem? HYI.out) wr A4 c4 HZ5.out).mono ?_
   rintro e' w3 ⟨rfl, hb3⟩
   clear x0 x1 x2 x3 x4 z0 z1 z2 z3 z4
   have HB3 := Lib.hid (below_step HBi.out hb3); have KE3 := Lib.hid (blk_below KEi.out hb3)
   clear hb3 HBi KEi
   generalize ha : cntL (e.f4.take i) = a at hct ⊢
   generalize hd : cntE y = d at hct ⊢
   have hadd : wrap64 (min (a : Int) 201 + min (d : Int) 201) = min (a : Int) 201 + min (d : Int) 201 := by unfold wrap64; omega
   by_cases hg : (200 : Int) < min (a : Int) 201 + min (d : Int) 201
   ·have hg2 : decide ((200 : Int) < min (a : Int) 201 + min (d : Int) 201) = true := decide_eq_true hg
    have HG := Lib.hid hg
    clear hg
    go_wp2_with (fail)
    go_roundg (n + 1 - (i + 1))
    case measure => have h1 := HLT.out; have h2 := HQ.out; omega
    case rel => exact ⟨i + 1, by rw [hw], (by rw [hct]; have := HG.out; congr 1; omega), Lib.hid (by have := HLT.out; omega), Lib.hid rfl, KE3, HB3⟩
   ·have hg2 : decide ((200 : Int) < min (a : Int) 201 + min (d : Int) 201) = false := decide_eq_false hg
    have HG := Lib.hid hg
    clear hg
    go_wp2_with (fail)
    go_roundg (n + 1 - (i + 1))
    case measure => have h1 := HLT.out; have h2 := HQ.out; omega
    case rel => exact ⟨i + 1, by rw [hw], (by rw [hct]; have := HG.out; congr 1; omega), Lib.hid (by have := HLT.out; omega), Lib.hid rfl, KE3, HB3⟩
  ·have hi : i = n := by have := HI.out; omega
   subst hi
   have hlt2 : decide ((i : Int) < (i : Int)) = false := decide_eq_false (by omega)
   have hall : e.f4.take i = e.f4 := List.take_of_length_le (by rw [HNN.out]; exact Nat.le_refl _)
   rw [hall]
   have hle : decide ((200 : Int) < min ((cntL e.f4 : Nat) : Int) 201) = decide (200 < cntL e.f4) := by congr 1; apply propext; omega
   clear hle
   generalize hc0 : cntL e.f4 = c0
   have HC0 := Lib.hid hc0
   by_cases hneg : e.f3 < 0
   ·have hn2 : decide (e.f3 < 0) = true := decide_eq_true hneg
    have hf3 : e.f3 = -1 := by have := HW.out; omega
    by_cases h1 : e.f2 < 1
    ·have hn3 : decide (e.f2 < 1) = true := decide_eq_true h1
     have HF3 := Lib.hid hf3; have HF2 := Lib.hid h1
     clear hf3 h1 hneg
     have hT : ((tms e.f2 e.f3 : Nat) : Int) = 1 := by unfold tms; rw [if_pos HF3.out]; have := HF2.out; omega
     have hm0 : 0 ≤ min (c0 : Int) 201 ∧ min (c0 : Int) 201 ≤ 201000 ∧ min (min (c0 : Int) 201) 201 = min ((c0 * tms e.f2 e.f3 : Nat) : Int) 201 := by
      have := rep_cut c0 (tms e.f2 e.f3) (by have := HT.out; omega)
      rw [hT] at this
      simpa using this
     have hmw : wrap64 (min (c0 : Int) 201) = min (c0 : Int) 201 := by have := hm0.1; have := hm0.2.1; unfold wrap64; omega
     have HM := Lib.hid hm0.2.2
     by_cases hov : (200 : Int) < min (c0 : Int) 201
     ·have ho : decide ((200 : Int) < min (c0 : Int) 201) = true := decide_eq_true hov
      have HOV := Lib.hid hov
      clear hov hm0 hT
      go_wp2_with (fail)
      go_ret
      have hk := HK.out
      exact ⟨by rw [cntE_eq]; simp only [hk]; simp; have h1 := HM.out; have h2 := HOV.out; rw [HC0.out]; omega, HBi.out⟩
     ·have ho : decide ((200 : Int) < min (c0 : Int) 201) = false := decide_eq_false hov
      have HOV := Lib.hid hov
      clear hov hm0 hT
      go_wp2_with (fail)
      go_ret
      have hk := HK.out
      exact ⟨by rw [cntE_eq]; simp only [hk]; simp; have h1 := HM.out; have h2 := HOV.out; rw [HC0.out]; omega, HBi.out⟩
    ·have hn3 : decide (e.f2 < 1) = false := decide_eq_false h1
     have HF3 := Lib.hid hf3; have HF2 := Lib.hid h1
     clear hf3 h1 hneg
     have hT : ((tms e.f2 e.f3 : Nat) : Int) = e.f2 := by unfold tms; rw [if_pos HF3.out]; have := HF2.out; omega
     have hm0 : 0 ≤ min (c0 : Int) 201 * e.f2 ∧ min (c0 : Int) 201 * e.f2 ≤ 201000 ∧ min (min (c0 : Int) 201 * e.f2) 201 = min ((c0 * tms e.f2 e.f3 : Nat) : Int) 201 := by
      have := rep_cut c0 (tms e.f2 e.f3) (by have := HT.out; omega)
      rw [hT] at this
      simpa using this
     have hmw : wrap64 (min (c0 : Int) 201 * e.f2) = min (c0 : Int) 201 * e.f2 := by have := hm0.1; have := hm0.2.1; unfold wrap64; omega
     have HM := Lib.hid hm0.2.2
     by_cases hov : (200 : Int) < min (c0 : Int) 201 * e.f2
     ·have ho : decide ((200 : Int) < min (c0 : Int) 201 * e.f2) = true := decide_eq_true hov
      have HOV := Lib.hid hov
      clear hov hm0 hT
      go_wp2_with (fail)
      go_ret
      have hk := HK.out
      exact ⟨by rw [cntE_eq]; simp only [hk]; simp; have h1 := HM.out; have h2 := HOV.out; rw [HC0.out]; omega, HBi.out⟩
     ·have ho : decide ((200 : Int) < min (c0 : Int) 201 * e.f2) = false := decide_eq_false hov
      have HOV := Lib.hid hov
      clear hov hm0 hT
      go_wp2_with (fail)
      go_ret
      have hk := HK.out
      exact ⟨by rw [cntE_eq]; simp only [hk]; simp; have h1 := HM.out; have h2 := HOV.out; rw [HC0.out]; omega, HBi.out⟩
   ·have hn2 : decide (e.f3 < 0) = false := decide_eq_false hneg
    have HF3 := Lib.hid hneg
    clear hneg
    have hT : ((tms e.f2 e.f3 : Nat) : Int) = e.f3 := by unfold tms; have := HF3.out; rw [if_neg (by omega)]; omega
    have hm0 : 0 ≤ min (c0 : Int) 201 * e.f3 ∧ min (c0 : Int) 201 * e.f3 ≤ 201000 ∧ min (min (c0 : Int) 201 * e.f3) 201 = min ((c0 * tms e.f2 e.f3 : Nat) : Int) 201 := by
     have := rep_cut c0 (tms e.f2 e.f3) (by have := HT.out; omega)
     rw [hT] at this
     simpa using this
    have hmw : wrap64 (min (c0 : Int) 201 * e.f3) = min (c0 : Int) 201 * e.f3 := by have := hm0.1; have := hm0.2.1; unfold wrap64; omega
    have HM := Lib.hid hm0.2.2
    by_cases hov : (200 : Int) < min (c0 : Int) 201 * e.f3
    ·have ho : decide ((200 : Int) < min (c0 : Int) 201 * e.f3) = true := decide_eq_true hov
     have HOV := Lib.hid hov
     clear hov hm0 hT
     go_wp2_with (fail)
     go_ret
     have hk := HK.out
     exact ⟨by rw [cntE_eq]; simp only [hk]; simp; have h1 := HM.out; have h2 := HOV.out; rw [HC0.out]; omega, HBi.out⟩
    ·have ho : decide ((200 : Int) < min (c0 : Int) 201 * e.f3) = false := decide_eq_false hov
     have HOV := Lib.hid hov
     clear hov hm0 hT
     go_wp2_with (fail)
     go_ret
     have hk := HK.out
     exact ⟨by rw [cntE_eq]; simp only [hk]; simp; have h1 := HM.out; have h2 := HOV.out; rw [HC0.out]; omega, HBi.out⟩
theorem ref_ok : ∀ (n : Nat) (e : Pr.S24), szE e ≤ n → szE e < 1000000 → Wf e → RefOk e
 | 0, e, h, _, _ => by have := szE_pos e; omega
 | n + 1, e, h, hb, hw => by
  have hs := szE_eq e
  have hl := szL_len e.f4
  have hy : (e.f0 = 3 ∨ e.f0 = 4 ∨ e.f0 = 5) → ∀ y ∈ e.f4, RefOk y := fun hk y hy => ref_ok n y (by have := szL_mem hy; omega) (by have := szL_mem hy; omega) (hw.kids hk y hy)
  by_cases h2 : e.f0 = 2
  ·exact ref_two e h2
  ·by_cases h3 : e.f0 = 3
   ·exact ref_seq e h3 (by omega) (hy (.inl h3))
   ·by_cases h4 : e.f0 = 4
    ·exact ref_alt e h4 (by omega) (hy (.inr (.inl h4)))
    ·by_cases h5 : e.f0 = 5
     ·obtain ⟨_, a, _, b, _⟩ := hw.rep h5
      exact ref_rep e h5 (by omega) (hy (.inr (.inr h5))) ⟨a, b⟩ (times_ok hw h5).2
     ·exact ref_none e ⟨h2, h3, h4, h5⟩
end Go.Proofs.YthocjdlcopmhiaaDoor.G
namespace Go.Proofs.YthocjdlcopmhiaaDoor.G
open Go.RowKit Go.Proofs.YthocjdlcopmhiaaDoorW.PrintWords Go.Proofs.YthocjdlcopmhiaaDoorW.PrintLast Go.Proofs.YthocjdlcopmhiaaDoorW.PrintMore
attribute [local go_sem] max2_int min2_int max_two min_two max_three min_three max_four min_four
set_option linter.unusedVariables false
set_option linter.unusedSimpArgs false
theorem put7 {w w' : World} {g : Nat} {t : TypeId} {z0 z1 z2 z3 z4 z5 z6 v0 v1 v2 v3 v4 v5 v6 : Value} (h : w.heap[g]? = some (.cells #[z0, z1, z2, z3, z4, z5, z6] t (0, 0)))
  (hw : ((((((w.setCell ⟨g, 0, none⟩ v0).setCell ⟨g, 1, none⟩ v1).setCell ⟨g, 2, none⟩ v2).setCell ⟨g, 3, none⟩ v3).setCell ⟨g, 4, none⟩ v4).setCell ⟨g, 5, none⟩ v5).setCell ⟨g, 6, none⟩ v6 = w') :
  w'.heap[g]? = some (.cells #[v0, v1, v2, v3, v4, v5, v6] t (0, 0)) ∧ Kept w w' (fun k => k = g) ∧ ∀ b, b ≤ g → Below b w w' := by
 subst hw
 have S := fun (i : Nat) => (Or.inl rfl : (⟨g, i, none⟩ : Addr).block = g ∨ w.heap.size ≤ (⟨g, i, none⟩ : Addr).block)
 have h0 : (w.setCell ⟨g, 0, none⟩ v0).heap[g]? = some (.cells #[v0, z1, z2, z3, z4, z5, z6] t (0, 0)) := blk_put h 0 v0 rfl
 have h1 : ((w.setCell ⟨g, 0, none⟩ v0).setCell ⟨g, 1, none⟩ v1).heap[g]? = some (.cells #[v0, v1, z2, z3, z4, z5, z6] t (0, 0)) := blk_put h0 1 v1 rfl
 have h2 : (((w.setCell ⟨g, 0, none⟩ v0).setCell ⟨g, 1, none⟩ v1).setCell ⟨g, 2, none⟩ v2).heap[g]? = some (.cells #[v0, v1, v2, z3, z4, z5, z6] t (0, 0)) := blk_put h1 2 v2 rfl
 have h3 : ((((w.setCell ⟨g, 0, none⟩ v0).setCell ⟨g, 1, none⟩ v1).setCell ⟨g, 2, none⟩ v2).setCell ⟨g, 3, none⟩ v3).heap[g]? = some (.cells #[v0, v1, v2, v3, z4, z5, z6] t (0, 0)) := blk_put h2 3 v3 rfl
 have h4 : (((((w.setCell ⟨g, 0, none⟩ v0).setCell ⟨g, 1, none⟩ v1).setCell ⟨g, 2, none⟩ v2).setCell ⟨g, 3, none⟩ v3).setCell ⟨g, 4, none⟩ v4).heap[g]? = some (.cells #[v0, v1, v2, v3, v4, z5, z6] t (0, 0)) := blk_put h3 4 v4 rfl
 have h5 : ((((((w.setCell ⟨g, 0, none⟩ v0).setCell ⟨g, 1, none⟩ v1).setCell ⟨g, 2, none⟩ v2).setCell ⟨g, 3, none⟩ v3).setCell ⟨g, 4, none⟩ v4).setCell ⟨g, 5, none⟩ v5).heap[g]? = some (.cells #[v0, v1, v2, v3, v4, v5, z6] t (0, 0)) := blk_put h4 5 v5 rfl
 have h6 : (((((((w.setCell ⟨g, 0, none⟩ v0).setCell ⟨g, 1, none⟩ v1).setCell ⟨g, 2, none⟩ v2).setCell ⟨g, 3, none⟩ v3).setCell ⟨g, 4, none⟩ v4).setCell ⟨g, 5, none⟩ v5).setCell ⟨g, 6, none⟩ v6).heap[g]? = some (.cells #[v0, v1, v2, v3, v4, v5, v6] t (0, 0)) := blk_put h5 6 v6 rfl
 refine ⟨h6, ?_, fun b hb => ?_⟩
 ·exact (((((((Kept.refl w (fun k => k = g)).setCell (S 0) v0).setCell (S 1) v1).setCell (S 2) v2).setCell (S 3) v3).setCell (S 4) v4).setCell (S 5) v5).setCell (S 6) v6
 ·have hlt := blk_lt h
  exact (((((((Below.refl b w).setCell hb v0).setCell hb v1).setCell hb v2).setCell hb v3).setCell hb v4).setCell hb v5).setCell hb v6
theorem number_form : ∀ (k : Nat) (nx : Int) (L : List Pr.S24) (n i : Int) (a b c d : Int) (l : List Pr.S24) (id : Int) (ks : List Pr.S63) {r}, Pr.glush_number.l0 k nx L n i a b c d l id ks = some r → r.1 = a ∧ r.2.1 = b ∧ r.2.2.1 = c ∧ r.2.2.2.1 = d ∧ r.2.2.2.2.1 = l ∧ r.2.2.2.2.2.1 = id
 | 0, _, _, _, _, _, _, _, _, _, _, _, r, h => by simp [Pr.glush_number.l0] at h
 | k + 1, nx, L, n, i, a, b, c, d, l, id, ks, r, h => by
  simp only [Pr.glush_number.l0] at h
  split at h
  ·split at h
   ·split at h
    ·obtain ⟨y, _, h⟩ := Option.bind_eq_some_iff.1 h
     split at h
     ·exact number_form k _ _ _ _ _ _ _ _ _ _ _ h
     ·cases h
    ·cases h
   ·cases h
  ·have h := Option.some.inj h
   subst h
   exact ⟨rfl, rfl, rfl, rfl, rfl, rfl⟩
abbrev EVa (e : Pr.S24) (A : Option Addr) (c : Nat) : Value := .agg #[.int .i64 e.f0, .int .i64 e.f1, .int .i64 e.f2, .int .i64 e.f3, .slice A e.f4.length c]
abbrev NVa (x : Pr.S63) (A4 : Option Addr) (c4 : Nat) (A6 : Option Addr) (c6 : Nat) : Value := .agg #[.int .i64 x.f0.f0, .int .i64 x.f0.f1, .int .i64 x.f0.f2, .int .i64 x.f0.f3, .slice A4 x.f0.f4.length c4, .int .i64 x.f1, .slice A6 x.f2.length c6]
def NumPost (P : Nat → Prop) (w : World) (e : Pr.S24) (A : Option Addr) (c : Nat) (id : Int) (kids : List Pr.S63) (nx : Int) (en : Ending) (w' : World) : Prop :=
 ∃ A6 c6, en = .returned (.tuple #[NVa ⟨e, id, kids⟩ A c A6 c6, .int .i64 nx]) ∧ Kd.V Pr.k63 63 w' 0 (fun k => P k ∨ w.heap.size ≤ k) (.slice A6 kids.length c6) kids ∧ Below w.heap.size w w'
set_option maxHeartbeats 8000000 in
set_option maxRecDepth 100000 in
theorem number_calls (k : Nat) : ∀ (e : Pr.S24) (A : Option Addr) (c : Nat) (P : Nat → Prop) (id : Int) (kids : List Pr.S63) (nx : Int) (w : World), Kd.V Pr.k24 24 w 0 P (.slice A e.f4.length c) e.f4 → Pr.glush_number.f k e.f0 e.f1 e.f2 e.f3 e.f4 id = some (e.f0, e.f1, e.f2, e.f3, e.f4, id, kids, nx) →
  Calls Tryd.prog 21 #[EVa e A c, .int .i64 id] w (NumPost P w e A c id kids nx) := by
 induction k with
 | zero => intro e A c P id kids nx w _ h; simp [Pr.glush_number.f] at h
 | succ k ih =>
 intro e A c P id kids nx w hV h
 simp only [Pr.glush_number.f] at h
 have hu63 := Tryd.underlying63; have hu24 := Tryd.underlying24
 have HV := Lib.hid (Kd.V_mono (Kd.V_bound hV) (fun k hk => hk)); have H := Lib.hid h; have IH := Lib.hid ih
 clear hV h ih
 go_enter Tryd.func21, Tryd.ntmps21
 go_upto_region 3 with (fail)
 generalize hw1 : w.alloc (.cells #[.int .i64 e.f0, .int .i64 e.f1, .int .i64 e.f2, .int .i64 e.f3, .slice A e.f4.length c] 24) = w1
 have b1 : Below w.heap.size w w1 := hw1 ▸ below_alloc (Below.refl _ _) _
 have s1 : w1.heap.size = w.heap.size + 1 := by rw [← hw1]; simp
 have k1 : w1.heap[w.heap.size]? = some (.cells #[.int .i64 e.f0, .int .i64 e.f1, .int .i64 e.f2, .int .i64 e.f3, .slice A e.f4.length c] 24 (0, 0)) := by rw [← hw1]; exact blk_new _ _
 generalize hw2 : w1.alloc (.cells #[.int .i64 0, .int .i64 0, .int .i64 0, .int .i64 0, .slice none 0 0, .int .i64 0, .slice none 0 0] 63) = w2
 have b2 : Below w1.heap.size w1 w2 := hw2 ▸ below_alloc (Below.refl _ _) _
 have s2 : w2.heap.size = w.heap.size + 1 + 1 := by rw [← hw2, ← s1]; simp
 have k2 : w2.heap[w.heap.size + 1]? = some (.cells #[.int .i64 0, .int .i64 0, .int .i64 0, .int .i64 0, .slice none 0 0, .int .i64 0, .slice none 0 0] 63 (0, 0)) := by rw [← s1, ← hw2]; exact blk_new _ _
 generalize hw3 : w2.alloc (.cells #[.int .i64 e.f0, .int .i64 e.f1, .int .i64 e.f2, .int .i64 e.f3, .slice A e.f4.length c, .int .i64 id, .slice none 0 0] 63) = w3
 have b3 : Below w2.heap.size w2 w3 := hw3 ▸ below_alloc (Below.refl _ _) _
 have s3 : w3.heap.size = w.heap.size + 1 + 1 + 1 := by rw [← hw3, ← s2]; simp
 have k3 : w3.heap[w.heap.size + 1 + 1]? = some (.cells #[.int .i64 e.f0, .int .i64 e.f1, .int .i64 e.f2, .int .i64 e.f3, .slice A e.f4.length c, .int .i64 id, .slice none 0 0] 63 (0, 0)) := by rw [← s2, ← hw3]; exact blk_new _ _
 have HZ := Lib.hid (blk_below k2 b3); have HK := Lib.hid k3; have HB := Lib.hid (below_step (below_step b1 b2) b3); have HS := Lib.hid s3
 have x4 : w3.cell? ⟨w.heap.size, 4, none⟩ = some (.slice A e.f4.length c) := (blk_cell (blk_below (blk_below k1 b2) b3) 4).trans rfl
 clear hw1 hw2 hw3 b1 b2 b3 s1 s2 s3 k1 k2 k3
 clear w1 w2
 have hn : e.f4.length ≤ 9223372036854775807 := (Kd.F_now (Kd.V_at HV.out).2.2).2.1
 have HN := Lib.hid hn; clear hn
 go_upto_region 4 with (fail)
 clear x4
 generalize hnn : e.f4.length = n at HK ⊢
 go_loopg [1, 18] k (fun kq v1 v18 w' => ∃ (nx' : Int) (i : Nat) (A6 : Option Addr) (c6 : Nat) (ks : List Pr.S63), v1 = .int .i64 nx' ∧ v18 = .int .i64 i ∧ Hid (Pr.glush_number.l0 kq nx' e.f4 (e.f4.length : Int) i e.f0 e.f1 e.f2 e.f3 e.f4 id ks = some (e.f0, e.f1, e.f2, e.f3, e.f4, id, kids, nx)) ∧ Hid (kq ≤ k) ∧ Hid (i ≤ n) ∧ Hid (Kd.N Pr.k63 63 w' (w.heap.size + 3) (fun q => (P q ∧ q < w.heap.size) ∨ w.heap.size + 3 ≤ q) (.slice A6 ks.length c6) ks) ∧ Hid (w'.heap[w.heap.size + 1]? = some (.cells #[.int .i64 0, .int .i64 0, .int .i64 0, .int .i64 0, .slice none 0 0, .int .i64 0, .slice none 0 0] 63 (0, 0))) ∧ Hid (w'.heap[w.heap.size + 1 + 1]? = some (.cells #[.int .i64 e.f0, .int .i64 e.f1, .int .i64 e.f2, .int .i64 e.f3, .slice A n c, .int .i64 id, .slice A6 ks.length c6] 63 (0, 0))) ∧ Hid (w.heap.size + 3 ≤ w'.heap.size) ∧ Hid (Below w.heap.size w w'))
 case atStart => exact ⟨_, 0, none, 0, [], rfl, rfl, H, Lib.hid (Nat.le_refl _), Lib.hid (Nat.zero_le _), Lib.hid (Kd.N_nil _ _ _ _ _), HZ, HK, Lib.hid (by have := HS.out; omega), HB⟩
 case round =>
  obtain ⟨nx', i, A6, c6, ks, rfl, rfl, HLi, HQ, HI, HNi, HZi, HKi, HSi, HBi⟩ := hrel
  clear HZ HK HS HB H
  cases gk with
  | zero => have h := HLi.out; simp [Pr.glush_number.l0] at h
  | succ m =>
  have hl := HLi.out
  simp only [Pr.glush_number.l0] at hl
  clear HLi
  by_cases hlt : i < n
  ·rw [if_pos (by omega), if_pos (by omega), if_pos (by omega)] at hl
   obtain ⟨y, hy, hk2⟩ := Option.bind_eq_some_iff.1 hl
   clear hl
   have hbd : ks.length < 1599289640401 := by
    by_cases hb : ks.length < 1599289640401
    ·exact hb
    ·rw [if_neg hb] at hk2; cases hk2
   rw [if_pos hbd] at hk2
   have hVi := Kd.V_below HV.out HBi.out
   obtain ⟨ad, _, _, rfl, _⟩ := Pr.at_T24 (Kd.F_now (Kd.V_at hVi).2.2) (i : Int) (by omega) (by omega)
   obtain ⟨cs, _, hfk, hc0⟩ := Kd.V_get hVi Pr.z24 (i : Int) (by omega) (by omega)
   have hkid : e.f4[i]? = some (Pr.rd_T24 e.f4 (i : Int)) := by
    unfold Pr.rd_T24
    rw [Int.toNat_natCast, List.getD_eq_getElem?_getD, List.getElem?_eq_getElem (by omega)]; rfl
   have hfk' : Kd.FK Pr.k24 wr (fun q => P q ∧ q < w.heap.size) (Pr.rd_T24 e.f4 (i : Int)) cs := hfk
   generalize Pr.rd_T24 e.f4 (i : Int) = kid at hy hk2 hkid hfk'
   clear hfk hkid
   obtain ⟨A4, c4, rfl, l4, hF⟩ := Pr.k24_openF hfk'
   have hc : ∀ j u, ([.int .i64 kid.f0, .int .i64 kid.f1, .int .i64 kid.f2, .int .i64 kid.f3, .slice A4 kid.f4.length c4] : List Value)[j]? = some u → wr.cell? (ad.add (i * 5 + j)) = some u := fun j u h => by have := hc0 j u h; rwa [Int.toNat_natCast] at this
   have z0 : wr.cell? (ad.add (i * 5)) = some (.int .i64 kid.f0) := hc 0 _ rfl
   have z1 : wr.cell? ⟨(ad.add (i * 5)).block, (ad.add (i * 5)).off + 1, none⟩ = some (.int .i64 kid.f1) := by rw [← add_field _ _ 1 (by omega)]; exact hc 1 _ rfl
   have z2 : wr.cell? ⟨(ad.add (i * 5)).block, (ad.add (i * 5)).off + 2, none⟩ = some (.int .i64 kid.f2) := by rw [← add_field _ _ 2 (by omega)]; exact hc 2 _ rfl
   have z3 : wr.cell? ⟨(ad.add (i * 5)).block, (ad.add (i * 5)).off + 3, none⟩ = some (.int .i64 kid.f3) := by rw [← add_field _ _ 3 (by omega)]; exact hc 3 _ rfl
   have z4 : wr.cell? ⟨(ad.add (i * 5)).block, (ad.add (i * 5)).off + 4, none⟩ = some (.slice A4 kid.f4.length c4) := by rw [← add_field _ _ 4 (by omega)]; exact hc 4 _ rfl
   have hVk := Kd.V_mk (e := 24) (base := 0) l4 hF
   obtain ⟨m', rfl⟩ : ∃ q, m = q + 1 := by
    cases m with
    | zero => simp [Pr.glush_number.f] at hy
    | succ q => exact ⟨q, rfl⟩
   have hform := hy
   simp only [Pr.glush_number.f] at hform
   obtain ⟨f0, f1, f2, f3, f4, f5⟩ := number_form _ _ _ _ _ _ _ _ _ _ _ _ hform
   obtain ⟨y0, y1, y2, y3, y4, y5, kids', nx''⟩ := y
   simp only at f0 f1 f2 f3 f4 f5 hk2 hbd
   subst f0; subst f1; subst f2; subst f3; subst f4; subst f5
   have hyk : Pr.glush_number.f k kid.f0 kid.f1 kid.f2 kid.f3 kid.f4 y5 = some (kid.f0, kid.f1, kid.f2, kid.f3, kid.f4, y5, kids', nx'') :=
    at_rounds (g := fun q => Pr.glush_number.f q kid.f0 kid.f1 kid.f2 kid.f3 kid.f4 y5) (fun q => Pr.glush_number.mono kid.f0 kid.f1 kid.f2 kid.f3 kid.f4 y5 q) (by have := HQ.out; omega) hy
   have HYK := Lib.hid hyk; have HL := Lib.hid hk2; have HVK := Lib.hid hVk; have HBD := Lib.hid hbd; have HLT := Lib.hid hlt; have HL4 := Lib.hid l4
   have hi0 : decide ((i : Int) < (n : Int)) = true := decide_eq_true (by omega)
   have hp0 : (0 ≤ (i : Int)) = True := eq_true (by omega)
   have hp1 : ((i : Int) < (n : Int)) = True := eq_true (by omega)
   have hwi : wrap64 ((i : Int) + 1) = ((i + 1 : Nat) : Int) := by have := HN.out; unfold wrap64; omega
   clear hyk hk2 hVk hbd hlt l4 hy hform hc hc0 hfk' hF hVi
   go_upto_region 7 with (fail)
   clear z0 z1 z2 z3 z4
   generalize hq1 : wr.alloc (.cells #[.int .i64 kid.f0, .int .i64 kid.f1, .int .i64 kid.f2, .int .i64 kid.f3, .slice A4 kid.f4.length c4] 24) = q1
   have b1 : Below wr.heap.size wr q1 := hq1 ▸ below_alloc (Below.refl _ _) _
   have s1 : q1.heap.size = wr.heap.size + 1 := by rw [← hq1]; simp
   have k1 : q1.heap[wr.heap.size]? = some (.cells #[.int .i64 kid.f0, .int .i64 kid.f1, .int .i64 kid.f2, .int .i64 kid.f3, .slice A4 kid.f4.length c4] 24 (0, 0)) := by rw [← hq1]; exact blk_new _ _
   generalize hq2 : q1.alloc (.cells #[.int .i64 0, .int .i64 0, .int .i64 0, .int .i64 0, .slice none 0 0, .int .i64 0, .slice none 0 0] 63) = q2
   have b2 : Below q1.heap.size q1 q2 := hq2 ▸ below_alloc (Below.refl _ _) _
   have s2 : q2.heap.size = wr.heap.size + 2 := by rw [← hq2]; simp [s1]
   have k2 : q2.heap[wr.heap.size + 1]? = some (.cells #[.int .i64 0, .int .i64 0, .int .i64 0, .int .i64 0, .slice none 0 0, .int .i64 0, .slice none 0 0] 63 (0, 0)) := by rw [← s1, ← hq2]; exact blk_new _ _
   have hb2 := below_step b1 b2
   have k1' := blk_below k1 b2
   have HB2 := Lib.hid (below_step HBi.out hb2); have HZ2 := Lib.hid (blk_below HZi.out hb2); have HK2 := Lib.hid (blk_below HKi.out hb2); have HN2 := Lib.hid (Kd.N_below (Kd.N_keptB HNi.out (Kept.refl wr (fun _ => False)) (fun _ _ h => h)) hb2); have HX2 := Lib.hid k2; have HV2 := Lib.hid (Kd.V_below HVK.out hb2)
   have HS2 := Lib.hid s2
   obtain ⟨x0, x1, x2, x3, x4⟩ : q2.cell? ⟨wr.heap.size, 0, none⟩ = some (.int .i64 kid.f0) ∧ q2.cell? ⟨wr.heap.size, 1, none⟩ = some (.int .i64 kid.f1) ∧ q2.cell? ⟨wr.heap.size, 2, none⟩ = some (.int .i64 kid.f2) ∧ q2.cell? ⟨wr.heap.size, 3, none⟩ = some (.int .i64 kid.f3) ∧ q2.cell? ⟨wr.heap.size, 4, none⟩ = some (.slice A4 kid.f4.length c4) :=
    ⟨(blk_cell k1' 0).trans rfl, (blk_cell k1' 1).trans rfl, (blk_cell k1' 2).trans rfl, (blk_cell k1' 3).trans rfl, (blk_cell k1' 4).trans rfl⟩
   clear hq1 hq2 b1 s1 k1 b2 s2 k2 hb2 k1' HBi HZi HKi HVK
   clear q1
   have HNI := Lib.hid (Kd.N_lt HNi.out); have HNB := Lib.hid (Kd.N_base HNi.out)
   generalize hgr : wr.heap.size = gr at x0 x1 x2 x3 x4 HX2 HS2 HN2 HNI ⊢
   have HGR := Lib.hid (show w.heap.size + 3 ≤ gr by rw [← hgr]; exact HSi.out)
   clear hgr HSi HNi
   go_wp2_with (fail)
   clear x0 x1 x2 x3 x4
   refine (IH.out kid A4 c4 (fun q => P q ∧ q < w.heap.size) y5 kids' nx'' q2 HV2.out HYK.out).mono ?_
   rintro en q3 ⟨A7, c7, rfl, hv7, hb3⟩
   have HB3 := Lib.hid (below_step HB2.out hb3); have HZ3 := Lib.hid (blk_below HZ2.out hb3); have HK3 := Lib.hid (blk_below HK2.out hb3); have HN3 := Lib.hid (Kd.N_below HN2.out hb3); have k3 := blk_below HX2.out hb3; have HV3 := Lib.hid (Kd.V_below HV2.out hb3); have HV7 := Lib.hid hv7
   have HSQ := HS2
   have HS3 := Lib.hid (show gr + 2 ≤ q3.heap.size by have := hb3.size; have := HS2.out; omega)
   have HNL := HNI
   have K3 := Lib.hid k3
   have t0 : q3.cell? ⟨gr + 1, 0, none⟩ = some (.int .i64 0) := (blk_cell k3 0).trans rfl; have u0 := blk_frozen k3 0
   have t1 : q3.cell? ⟨gr + 1, 1, none⟩ = some (.int .i64 0) := (blk_cell k3 1).trans rfl; have u1 := blk_frozen k3 1
   have t2 : q3.cell? ⟨gr + 1, 2, none⟩ = some (.int .i64 0) := (blk_cell k3 2).trans rfl; have u2 := blk_frozen k3 2
   have t3 : q3.cell? ⟨gr + 1, 3, none⟩ = some (.int .i64 0) := (blk_cell k3 3).trans rfl; have u3 := blk_frozen k3 3
   have t4 : q3.cell? ⟨gr + 1, 4, none⟩ = some (.slice none 0 0) := (blk_cell k3 4).trans rfl; have u4 := blk_frozen k3 4
   have t5 : q3.cell? ⟨gr + 1, 5, none⟩ = some (.int .i64 0) := (blk_cell k3 5).trans rfl; have u5 := blk_frozen k3 5
   have t6 : q3.cell? ⟨gr + 1, 6, none⟩ = some (.slice none 0 0) := (blk_cell k3 6).trans rfl; have u6 := blk_frozen k3 6
   clear k3 hv7 hb3 HZ2 HK2 HN2 HB2 HV2 HX2 HS2
   go_upto_region 8 with (fail)
   clear t0 u0 t1 u1 t2 u2 t3 u3 t4 u4 t5 u5 t6 u6
   generalize hq4 : (((((((q3.setCell ⟨gr + 1, 0, none⟩ (.int .i64 kid.f0)).setCell ⟨gr + 1, 1, none⟩ (.int .i64 kid.f1)).setCell ⟨gr + 1, 2, none⟩ (.int .i64 kid.f2)).setCell ⟨gr + 1, 3, none⟩ (.int .i64 kid.f3)).setCell ⟨gr + 1, 4, none⟩ (.slice A4 kid.f4.length c4)).setCell ⟨gr + 1, 5, none⟩ (.int .i64 y5)).setCell ⟨gr + 1, 6, none⟩ (.slice A7 kids'.length c7)) = q4
   obtain ⟨k4, hk4, hbl⟩ := put7 K3.out hq4
   have hge := HGR.out
   have HB4 := Lib.hid (HB3.out.trans (hbl w.heap.size (by omega))); have HZ4 := Lib.hid (blk_kept HZ3.out hk4 (fun h => by omega)); have HK4 := Lib.hid (blk_kept HK3.out hk4 (fun h => by omega))
   have HN4 := Lib.hid (Kd.N_mono (Kd.N_kept HN3.out hk4 (fun q h1 h2 => by have := h1.2.2; omega)) (ok' := fun q => (P q ∧ q < w.heap.size) ∨ w.heap.size + 3 ≤ q) (fun q h => h.1))
   have hV4 := Kd.V_kept HV3.out hk4 (fun q h1 h2 => by have := h1.2; omega)
   have hV74 := Kd.V_kept HV7.out hk4 (fun q h1 h2 => by have := h1; rcases h1 with h | h; have := h.2; omega; have := HSQ.out; omega)
   have HFK := Lib.hid (Pr.k63_mkF q4 (fun q => (P q ∧ q < w.heap.size) ∨ gr + 2 ≤ q) ⟨kid, y5, kids'⟩ HL4.out (Kd.F_mono (Kd.V_at hV4).2.2 (fun q h => .inl h)) (Kd.V_at hV74).2.1 (Kd.F_mono (Kd.V_at hV74).2.2 (fun q h => h.elim .inl (fun h => .inr (by have := HSQ.out; omega)))))
   have HS4 := Lib.hid (show w.heap.size + 3 ≤ q4.heap.size by have := hk4.1; have := HS3.out; omega)
   have m0 : q4.cell? ⟨gr + 1, 0, none⟩ = some (.int .i64 kid.f0) := (blk_cell k4 0).trans rfl
   have m1 : q4.cell? ⟨gr + 1, 1, none⟩ = some (.int .i64 kid.f1) := (blk_cell k4 1).trans rfl
   have m2 : q4.cell? ⟨gr + 1, 2, none⟩ = some (.int .i64 kid.f2) := (blk_cell k4 2).trans rfl
   have m3 : q4.cell? ⟨gr + 1, 3, none⟩ = some (.int .i64 kid.f3) := (blk_cell k4 3).trans rfl
   have m4 : q4.cell? ⟨gr + 1, 4, none⟩ = some (.slice A4 kid.f4.length c4) := (blk_cell k4 4).trans rfl
   have m5 : q4.cell? ⟨gr + 1, 5, none⟩ = some (.int .i64 y5) := (blk_cell k4 5).trans rfl
   have m6 : q4.cell? ⟨gr + 1, 6, none⟩ = some (.slice A7 kids'.length c7) := (blk_cell k4 6).trans rfl
   have m7 : q4.cell? ⟨w.heap.size + 1 + 1, 6, none⟩ = some (.slice A6 ks.length c6) := (blk_cell HK4.out 6).trans rfl
   clear hq4 k4 hk4 hbl hge hV4 hV74 HB3 HZ3 HK3 HN3 HV3 HV7 K3
   go_wp2_with (first | ((with_reducible refine gate_dst (N := 32) rfl ?_); refine Kd.N_append Pr.k63 (w0 := q4) (W := q4) (w.heap.size + 3) rfl (.tmp 29) (.tmp 31) 61 63 (.agg #[(.int .i64 0), (.int .i64 0), (.int .i64 0), (.int .i64 0), (.slice none 0 0), (.int .i64 0), (.slice none 0 0)]) 88 rfl Tryd.underlying61 Pr.info63 rfl (by decide) (by omega) (.slice A6 ks.length c6) ks ⟨kid, y5, kids'⟩ [.int .i64 kid.f0, .int .i64 kid.f1, .int .i64 kid.f2, .int .i64 kid.f3, .slice A4 kid.f4.length c4, .int .i64 y5, .slice A7 kids'.length c7] (fun q => (P q ∧ q < w.heap.size) ∨ w.heap.size + 3 ≤ q) (fun q => (P q ∧ q < w.heap.size) ∨ gr + 2 ≤ q) rfl rfl HFK.out ?hokp (fun q hq => .inr (Nat.le_trans HS4.out hq)) HN4.out (Below.refl _ _) HS4.out ?hln ?_; (case hokp => exact fun q (hq : (P q ∧ q < w.heap.size) ∨ gr + 2 ≤ q) => (⟨hq.imp (fun h => h) (fun h => (by have := HGR.out; omega : w.heap.size + 3 ≤ q)), fun he => (by have h1 := HNI.out q he.symm; have h2 := HNB.out q he.symm; rcases hq with h | h; (have := h.2; omega); omega)⟩ : ((P q ∧ q < w.heap.size) ∨ w.heap.size + 3 ≤ q) ∧ some q ≠ (Value.slice A6 ks.length c6).ownBlock)); (case hln => have := HBD.out; omega); intro v1 w9 hN9 hB9 hg9 hat9; obtain ⟨A9, c9, rfl⟩ := Kd.N_slice hN9; have KK9 := blk_grown HK4.out hg9 (fun h => by have := HNB.out _ h.symm; omega); have ZZ9 := Lib.hid (blk_grown HZ4.out hg9 (fun h => by have := HNB.out _ h.symm; omega)); have BB9 := Lib.hid (pw_below_grown HB4.out _ HB4.out.size hg9 (fun q hq => by have := HNB.out _ hq; omega)); have m8 : w9.cell? ⟨w.heap.size + 1 + 1, 6, none⟩ = some (.slice A6 ks.length c6) := (blk_cell KK9 6).trans rfl; have m9 := blk_frozen KK9 6; have KL9 := Lib.hid KK9; have NN9 := Lib.hid hN9; have SS9 := Lib.hid hg9.size; clear KK9 hN9 hB9 hg9 hat9))
   have K9 : (w9.setCell ⟨w.heap.size + 1 + 1, 6, none⟩ (.slice A9 (ks.length + 1) c9)).heap[w.heap.size + 1 + 1]? = some (.cells #[.int .i64 e.f0, .int .i64 e.f1, .int .i64 e.f2, .int .i64 e.f3, .slice (some ad) n c, .int .i64 id, (.slice A9 (ks ++ [(⟨kid, y5, kids'⟩ : Pr.S63)]).length c9)] 63 (0, 0)) := by rw [List.length_append]; exact blk_put KL9.out 6 _ rfl
   go_roundg (m' + 1)
   case measure => omega
   case rel => exact ⟨nx'', i + 1, A9, c9, ks ++ [⟨kid, y5, kids'⟩], rfl, by first | rfl | (rw [hwi]) | simp, Lib.hid (by have h := HL.out; have hx : (⟨kid.f0, kid.f1, kid.f2, kid.f3, kid.f4⟩ : Pr.S24) = kid := (by cases kid; rfl); rw [hwi, hx] at h; exact h), Lib.hid (by have := HQ.out; omega), Lib.hid HLT.out, Lib.hid (Kd.N_far NN9.out (fun q hq => by show q ≠ w.heap.size + 1 + 1; rcases hq with h | h; have := h.2; omega; omega) _), Lib.hid (blk_far ZZ9.out (by show w.heap.size + 1 ≠ w.heap.size + 1 + 1; omega) _), Lib.hid K9, Lib.hid (by have h1 := SS9.out; have h2 := HS4.out; simp; omega), Lib.hid (BB9.out.setCell (by show w.heap.size ≤ w.heap.size + 1 + 1; omega) _)⟩
  ·have hi : i = n := by have := HI.out; omega
   subst hi
   rw [hnn, if_neg (by omega)] at hl
   have hl := Option.some.inj hl
   simp only [Prod.mk.injEq] at hl
   obtain ⟨_, _, _, _, _, _, hks, hnx⟩ := hl
   subst hks; subst hnx
   have hlt2 : decide ((i : Int) < (i : Int)) = false := decide_eq_false (by omega)
   have m0 : wr.cell? ⟨w.heap.size + 1 + 1, 0, none⟩ = some (.int .i64 e.f0) := (blk_cell HKi.out 0).trans rfl
   have t0 : wr.cell? ⟨w.heap.size + 1, 0, none⟩ = some (.int .i64 0) := (blk_cell HZi.out 0).trans rfl; have u0 := blk_frozen HZi.out 0
   have m1 : wr.cell? ⟨w.heap.size + 1 + 1, 1, none⟩ = some (.int .i64 e.f1) := (blk_cell HKi.out 1).trans rfl
   have t1 : wr.cell? ⟨w.heap.size + 1, 1, none⟩ = some (.int .i64 0) := (blk_cell HZi.out 1).trans rfl; have u1 := blk_frozen HZi.out 1
   have m2 : wr.cell? ⟨w.heap.size + 1 + 1, 2, none⟩ = some (.int .i64 e.f2) := (blk_cell HKi.out 2).trans rfl
   have t2 : wr.cell? ⟨w.heap.size + 1, 2, none⟩ = some (.int .i64 0) := (blk_cell HZi.out 2).trans rfl; have u2 := blk_frozen HZi.out 2
   have m3 : wr.cell? ⟨w.heap.size + 1 + 1, 3, none⟩ = some (.int .i64 e.f3) := (blk_cell HKi.out 3).trans rfl
   have t3 : wr.cell? ⟨w.heap.size + 1, 3, none⟩ = some (.int .i64 0) := (blk_cell HZi.out 3).trans rfl; have u3 := blk_frozen HZi.out 3
   have m4 : wr.cell? ⟨w.heap.size + 1 + 1, 4, none⟩ = some (.slice A i c) := (blk_cell HKi.out 4).trans rfl
   have t4 : wr.cell? ⟨w.heap.size + 1, 4, none⟩ = some (.slice none 0 0) := (blk_cell HZi.out 4).trans rfl; have u4 := blk_frozen HZi.out 4
   have m5 : wr.cell? ⟨w.heap.size + 1 + 1, 5, none⟩ = some (.int .i64 id) := (blk_cell HKi.out 5).trans rfl
   have t5 : wr.cell? ⟨w.heap.size + 1, 5, none⟩ = some (.int .i64 0) := (blk_cell HZi.out 5).trans rfl; have u5 := blk_frozen HZi.out 5
   have m6 : wr.cell? ⟨w.heap.size + 1 + 1, 6, none⟩ = some (.slice A6 ks.length c6) := (blk_cell HKi.out 6).trans rfl
   have t6 : wr.cell? ⟨w.heap.size + 1, 6, none⟩ = some (.slice none 0 0) := (blk_cell HZi.out 6).trans rfl; have u6 := blk_frozen HZi.out 6
   clear hlt
   go_wp2_with (fail)
   clear m0 m1 m2 m3 m4 m5 m6 t0 t1 t2 t3 t4 t5 t6 u0 u1 u2 u3 u4 u5 u6
   generalize hq : (((((((wr.setCell ⟨w.heap.size + 1, 0, none⟩ (.int .i64 e.f0)).setCell ⟨w.heap.size + 1, 1, none⟩ (.int .i64 e.f1)).setCell ⟨w.heap.size + 1, 2, none⟩ (.int .i64 e.f2)).setCell ⟨w.heap.size + 1, 3, none⟩ (.int .i64 e.f3)).setCell ⟨w.heap.size + 1, 4, none⟩ (.slice A i c)).setCell ⟨w.heap.size + 1, 5, none⟩ (.int .i64 id)).setCell ⟨w.heap.size + 1, 6, none⟩ (.slice A6 ks.length c6)) = q
   obtain ⟨kq, hkq, hbl⟩ := put7 HZi.out hq
   refine bodyPost_ret (results_ct rfl _ _ (w.heap.size + 1) 63 #[.int .i64 e.f0, .int .i64 e.f1, .int .i64 e.f2, .int .i64 e.f3, .slice A i c, .int .i64 id, .slice A6 ks.length c6] (0, 0) _ rfl kq Tryd.underlying63 rfl (by kernel_rfl)) rfl ?_
   have hs := HSi.out
   have hN := Kd.N_V (base' := 0) (Kd.N_kept HNi.out hkq (fun q h1 h2 => by rcases h1 with h | h; (have := h.2; omega); omega))
   exact ⟨A6, c6, by rw [← hnn]; rfl, Kd.V_mono hN (fun q h => h.imp (fun h => h.1) (fun h => by omega)), HBi.out.trans (hbl w.heap.size (by omega))⟩
end Go.Proofs.YthocjdlcopmhiaaDoor.G
namespace Go.Proofs.YthocjdlcopmhiaaDoor.G
open Go.RowKit Go.Proofs.YthocjdlcopmhiaaDoorW.PrintWords Go.Proofs.YthocjdlcopmhiaaDoorW.PrintLast Go.Proofs.YthocjdlcopmhiaaDoorW.PrintMore
attribute [local go_sem] max2_int min2_int max_two min_two max_three min_three max_four min_four
set_option linter.unusedVariables false
set_option linter.unusedSimpArgs false
def RO.T : Bool × List (List Nat × List Nat) := (true, [([], []), ([0], [0]), ([], []), ([2], [2]), ([], []), ([3, 4], [3, 4]), ([5], [5]), ([6], [6]), ([7], [7]), ([1, 8, 7], [1, 8]), ([0, 1, 2, 3, 4, 5, 6, 7, 8, 9], []), ([10, 9, 9, 0, 1, 2, 3, 4, 5, 6, 7, 8, 9], [9, 10])])
def RO.B : List Nat := [0, 1, 0, 4, 0, 28, 60, 124, 252, 511, 1023, 2047]
theorem RO.tab : rtab .any (opsOf Tryd.f18 5) = RO.T := by kernel_rfl
theorem RO.bits : waitsOk RO.T.2 RO.B = true := by kernel_rfl
theorem put5 {w w' : World} {g : Nat} {t : TypeId} {z0 z1 z2 z3 z4 v0 v1 v2 v3 v4 : Value} (h : w.heap[g]? = some (.cells #[z0, z1, z2, z3, z4] t (0, 0)))
  (hw : ((((w.setCell ⟨g, 0, none⟩ v0).setCell ⟨g, 1, none⟩ v1).setCell ⟨g, 2, none⟩ v2).setCell ⟨g, 3, none⟩ v3).setCell ⟨g, 4, none⟩ v4 = w') :
  w'.heap[g]? = some (.cells #[v0, v1, v2, v3, v4] t (0, 0)) ∧ Kept w w' (fun k => k = g) ∧ ∀ b, b ≤ g → Below b w w' := by
 subst hw
 have S := fun (i : Nat) => (Or.inl rfl : (⟨g, i, none⟩ : Addr).block = g ∨ w.heap.size ≤ (⟨g, i, none⟩ : Addr).block)
 have h0 : (w.setCell ⟨g, 0, none⟩ v0).heap[g]? = some (.cells #[v0, z1, z2, z3, z4] t (0, 0)) := blk_put h 0 v0 rfl
 have h1 := blk_put (cs' := #[v0, v1, z2, z3, z4]) h0 1 v1 rfl
 have h2 := blk_put (cs' := #[v0, v1, v2, z3, z4]) h1 2 v2 rfl
 have h3 := blk_put (cs' := #[v0, v1, v2, v3, z4]) h2 3 v3 rfl
 have h4 := blk_put (cs' := #[v0, v1, v2, v3, v4]) h3 4 v4 rfl
 refine ⟨h4, ?_, fun b hb => ?_⟩
 ·exact (((((Kept.refl w (fun k => k = g)).setCell (S 0) v0).setCell (S 1) v1).setCell (S 2) v2).setCell (S 3) v3).setCell (S 4) v4
 ·exact (((((Below.refl b w).setCell hb v0).setCell hb v1).setCell hb v2).setCell hb v3).setCell hb v4
abbrev EVo (e : Pr.S24) (A : Option Addr) (c : Nat) : Value := .agg #[.int .i64 e.f0, .int .i64 e.f1, .int .i64 e.f2, .int .i64 e.f3, .slice A e.f4.length c]
def OfC (e : Pr.S24) : Prop := ∀ (w : World) (A : Option Addr) (c : Nat), Kd.C Pr.k24 w A e.f4.length e.f4 → Calls Tryd.prog 18 #[EVo e A c] w fun en w' => ∃ A' c', en = .returned (.agg #[.int .i64 e.f0, .int .i64 e.f1, .int .i64 e.f2, .int .i64 e.f3, .slice A' (ofL e.f4).length c']) ∧ Kd.V Pr.k45 45 w' 0 (fun q => w.heap.size ≤ q) (.slice A' (ofL e.f4).length c') (ofL e.f4) ∧ Below w.heap.size w w'
theorem OfC.call {e : Pr.S24} (h : OfC e) (w : World) (A : Option Addr) (c : Nat) (hC : Kd.C Pr.k24 w A e.f4.length e.f4) : Calls Tryd.prog 18 #[EVo e A c] w fun en w' => ∃ A' c', en = .returned (.agg #[.int .i64 e.f0, .int .i64 e.f1, .int .i64 e.f2, .int .i64 e.f3, .slice A' (ofL e.f4).length c']) ∧ Kd.V Pr.k45 45 w' 0 (fun q => w.heap.size ≤ q) (.slice A' (ofL e.f4).length c') (ofL e.f4) ∧ Below w.heap.size w w' := h w A c hC
theorem ofL_take {l : List Pr.S24} {i : Nat} {y : Pr.S24} (h : l[i]? = some y) : ofL (l.take (i + 1)) = ofL (l.take i) ++ [ofE y] := by
 have hi : i < l.length := (List.getElem?_eq_some_iff.1 h).1
 have e : l[i] = y := (List.getElem?_eq_some_iff.1 h).2
 rw [List.take_succ_eq_append_getElem hi, e, ofL_map, ofL_map, List.map_append]
 rfl
set_option maxHeartbeats 8000000 in
set_option maxRecDepth 100000 in
theorem of_step (e : Pr.S24) (hl : e.f4.length < 1000000) (hy : ∀ y ∈ e.f4, OfC y) : OfC e := by
 intro w A c hC
 have hu45 := Tryd.underlying45; have hu24 := Tryd.underlying24
 have HC := Lib.hid hC; have HY := Lib.hid hy; have HL := Lib.hid hl
 clear hC hy hl
 go_enter Tryd.func18, Tryd.ntmps18
 go_upto_region 1 with (fail)
 generalize hw1 : w.alloc (.cells #[.int .i64 e.f0, .int .i64 e.f1, .int .i64 e.f2, .int .i64 e.f3, .slice A e.f4.length c] 24) = w1
 have b1 : Below w.heap.size w w1 := hw1 ▸ below_alloc (Below.refl _ _) _
 have s1 : w1.heap.size = w.heap.size + 1 := by rw [← hw1]; simp
 have k1 : w1.heap[w.heap.size]? = some (.cells #[.int .i64 e.f0, .int .i64 e.f1, .int .i64 e.f2, .int .i64 e.f3, .slice A e.f4.length c] 24 (0, 0)) := by rw [← hw1]; exact blk_new _ _
 generalize hw2 : w1.alloc (.cells #[.int .i64 0, .int .i64 0, .int .i64 0, .int .i64 0, .slice none 0 0] 45) = w2
 have b2 : Below w1.heap.size w1 w2 := hw2 ▸ below_alloc (Below.refl _ _) _
 have s2 : w2.heap.size = w.heap.size + 1 + 1 := by rw [← hw2, ← s1]; simp
 have k2 : w2.heap[w.heap.size + 1]? = some (.cells #[.int .i64 0, .int .i64 0, .int .i64 0, .int .i64 0, .slice none 0 0] 45 (0, 0)) := by rw [← s1, ← hw2]; exact blk_new _ _
 have k1' := blk_below k1 b2
 obtain ⟨x0, x1, x2, x3, x4⟩ := cls5 k1'
 go_upto_region 2 with (fail)
 clear x0 x1 x2 x3 x4
 generalize hw3 : w2.alloc (.cells #[.int .i64 e.f0, .int .i64 e.f1, .int .i64 e.f2, .int .i64 e.f3, .slice none 0 0] 45) = w3
 have b3 : Below w2.heap.size w2 w3 := hw3 ▸ below_alloc (Below.refl _ _) _
 have s3 : w3.heap.size = w.heap.size + 1 + 1 + 1 := by rw [← hw3, ← s2]; simp
 have k3 : w3.heap[w.heap.size + 1 + 1]? = some (.cells #[.int .i64 e.f0, .int .i64 e.f1, .int .i64 e.f2, .int .i64 e.f3, .slice none 0 0] 45 (0, 0)) := by rw [← s2, ← hw3]; exact blk_new _ _
 have HG := Lib.hid (blk_below k1' b3); have HZ := Lib.hid (blk_below k2 b3); have HK := Lib.hid k3; have HB := Lib.hid (below_step (below_step b1 b2) b3); have HS := Lib.hid s3
 clear hw1 hw2 hw3 b1 b2 b3 s1 s2 s3 k1 k2 k3 k1'
 clear w1 w2
 generalize hnn : e.f4.length = n at HC HG HL ⊢
 have HNN := Lib.hid hnn; clear hnn
 go_upto_region 3 with (fail)
 go_loopg [4] (n + 1) (fun kq v4 w' => ∃ (i : Nat) (A6 : Option Addr) (c6 : Nat), v4 = .int .i64 i ∧ Hid (i ≤ n) ∧ Hid (kq = n + 1 - i) ∧ Hid (Kd.N Pr.k45 45 w' (w.heap.size + 3) (fun q => w.heap.size + 3 ≤ q) (.slice A6 (ofL (e.f4.take i)).length c6) (ofL (e.f4.take i))) ∧ Hid (w'.heap[w.heap.size]? = some (.cells #[.int .i64 e.f0, .int .i64 e.f1, .int .i64 e.f2, .int .i64 e.f3, .slice A n c] 24 (0, 0))) ∧ Hid (w'.heap[w.heap.size + 1]? = some (.cells #[.int .i64 0, .int .i64 0, .int .i64 0, .int .i64 0, .slice none 0 0] 45 (0, 0))) ∧ Hid (w'.heap[w.heap.size + 1 + 1]? = some (.cells #[.int .i64 e.f0, .int .i64 e.f1, .int .i64 e.f2, .int .i64 e.f3, .slice A6 (ofL (e.f4.take i)).length c6] 45 (0, 0))) ∧ Hid (w.heap.size + 3 ≤ w'.heap.size) ∧ Hid (Below w.heap.size w w'))
 case atStart => exact ⟨0, none, 0, rfl, Lib.hid (Nat.zero_le _), Lib.hid rfl, Lib.hid (by rw [List.take_zero]; exact Kd.N_nil _ _ _ _ _), HG, HZ, Lib.hid (by rw [List.take_zero]; exact HK.out), Lib.hid (by have := HS.out; omega), HB⟩
 case round =>
  obtain ⟨i, A6, c6, rfl, HI, HQ, HNi, HGi, HZi, HKi, HSi, HBi⟩ := hrel
  clear HG HZ HK HB HS
  obtain ⟨x0, x1, x2, x3, x4⟩ := cls5 HGi.out
  by_cases hlt : i < n
  ·have hlt2 : decide ((i : Int) < (n : Int)) = true := decide_eq_true (by omega)
   have HLT := Lib.hid hlt
   have hwi : wrap64 ((i : Int) + 1) = ((i + 1 : Nat) : Int) := by have := HL.out; unfold wrap64; omega
   have hp0 : (0 ≤ (i : Int)) = True := eq_true (by omega)
   have hp1 : ((i : Int) < (n : Int)) = True := eq_true (by omega)
   have hyi : e.f4[i]? = some (e.f4[i]'(by rw [HNN.out]; exact hlt)) := List.getElem?_eq_getElem _
   generalize e.f4[i]'(by rw [HNN.out]; exact hlt) = y at hyi
   obtain ⟨ad, A4, c4, rfl, z0, z1, z2, z3, z4, _, z5⟩ := Pr.at_T24 (Kd.C_below HC.out HBi.out) (i : Int) (by omega) (by omega)
   rw [rd24_at hyi] at z0 z1 z2 z3 z4 z5
   rw [Int.toNat_natCast] at z0 z1 z2 z3 z4
   have hot := ofL_take hyi
   have HOT := Lib.hid hot; have HYI := Lib.hid hyi; have HZ5 := Lib.hid z5
   have hlen : (ofL (e.f4.take i)).length = i := by rw [ofL_len, List.length_take]; have := HNN.out; omega
   have HLEN := Lib.hid hlen
   clear hot hyi z5 hlt hlen
   generalize hrow : ofL (e.f4.take i) = row at HNi HKi HOT HLEN
   have HROW := Lib.hid hrow; clear hrow
   have x5 : wr.cell? ⟨w.heap.size + 1 + 1, 4, none⟩ = some (.slice A6 row.length c6) := (blk_cell HKi.out 4).trans rfl
   go_upto_region 5 with (fail)
   refine start_ (n := 12) (S := fun w' => w'.cell? ⟨w.heap.size + 1 + 1, 4, none⟩ = some (.slice A6 row.length c6) ∧ w'.cell? ⟨w.heap.size, 4, none⟩ = some (.slice (some ad) n c) ∧ w'.cell? (ad.add (i * 5)) = some (.int .i64 y.f0) ∧ w'.cell? ⟨(ad.add (i * 5)).block, (ad.add (i * 5)).off + 1, none⟩ = some (.int .i64 y.f1) ∧ w'.cell? ⟨(ad.add (i * 5)).block, (ad.add (i * 5)).off + 2, none⟩ = some (.int .i64 y.f2) ∧ w'.cell? ⟨(ad.add (i * 5)).block, (ad.add (i * 5)).off + 3, none⟩ = some (.int .i64 y.f3) ∧ w'.cell? ⟨(ad.add (i * 5)).block, (ad.add (i * 5)).off + 4, none⟩ = some (.slice A4 y.f4.length c4)) (ds := [9, 11]) (S.um 12 0) (by kernel_rfl) rfl rfl ⟨x5, x4, z0, z1, z2, z3, z4⟩ (fun hHeld => ?_); refine with_tabW RO.tab RO.bits (fun HT_ HW_ => ?_)
   clear x0 x1 x2 x3 x4 x5 z0 z1 z2 z3 z4
   refine S.p 12 0 21 1 HT_.out rfl rfl ?_
   refine S.p 12 2 23 5 HT_.out rfl rfl ?_
   refine S.p 12 4 25 21 HT_.out rfl rfl ?_
   refine S.t 12 1 22 23 HT_.out HW_.out rfl rfl hHeld ?_
   refine S.t 12 3 24 31 HT_.out HW_.out rfl rfl hHeld ?_
   refine S.p 12 5 26 63 HT_.out rfl rfl ?_
   refine S.t 12 6 27 127 HT_.out HW_.out rfl rfl hHeld ?_
   refine S.o 12 7 28 255 HT_.out rfl rfl (fun K hK => ?_)
   refine S.g Tryd.func18 #[EVo y A4 c4] rfl rfl ?_
   (with_reducible refine (OfC.call (HY.out y (List.mem_of_getElem? HYI.out)) wr.drew A4 c4 (Kd.C_drew HZ5.out)).mono ?_)
   rintro en q3 ⟨A7, c7, rfl, hv7, hb3⟩
   refine ⟨_, rfl, ?_⟩
   have hsd : wr.drew.heap.size = wr.heap.size := rfl
   have HB3 := Lib.hid (below_step (below_drew1 HBi.out) hb3); have HG3 := Lib.hid (blk_below (blk_drew HGi.out) hb3); have HZ3 := Lib.hid (blk_below (blk_drew HZi.out) hb3); have HK3 := Lib.hid (blk_below (blk_drew HKi.out) hb3); have HN3 := Lib.hid (Kd.N_below (Kd.N_drew HNi.out) hb3)
   have HS3 := Lib.hid (show wr.heap.size ≤ q3.heap.size from hb3.size)
   have HNL := Lib.hid (Kd.N_lt HNi.out); have HNB := Lib.hid (Kd.N_base HNi.out)
   have HFK := Lib.hid (Pr.k45_mkF q3 (fun q => wr.heap.size ≤ q) (⟨y.f0, y.f1, y.f2, y.f3, ofL y.f4⟩ : Pr.S45) (Kd.V_at hv7).2.1 (Kd.V_at hv7).2.2)
   refine hK.out _ _ ⟨pw_cell_below hb3 hHeld.1, pw_cell_below hb3 hHeld.2.1, pw_cell_below hb3 hHeld.2.2.1, pw_cell_below hb3 hHeld.2.2.2.1, pw_cell_below hb3 hHeld.2.2.2.2.1, pw_cell_below hb3 hHeld.2.2.2.2.2.1, pw_cell_below hb3 hHeld.2.2.2.2.2.2⟩ (fun hHeld => ?_)
   clear hK K hb3 hv7 HBi HGi HZi HKi HNi hsd
   refine S.w 28 ?_
   refine S.o 12 8 29 511 HT_.out rfl rfl (fun K hK => ?_)
   refine value_ (w1 := ?_) (v := ?_) (by rfl) rfl ?_ ?_
   rotate_left 2
   ·go_simp
    constructor
    ·rfl
    ·rfl
   refine hK.out _ _ ⟨pw_cell_below (below_alloc (Below.refl _ _) _) hHeld.1, pw_cell_below (below_alloc (Below.refl _ _) _) hHeld.2.1, pw_cell_below (below_alloc (Below.refl _ _) _) hHeld.2.2.1, pw_cell_below (below_alloc (Below.refl _ _) _) hHeld.2.2.2.1, pw_cell_below (below_alloc (Below.refl _ _) _) hHeld.2.2.2.2.1, pw_cell_below (below_alloc (Below.refl _ _) _) hHeld.2.2.2.2.2.1, pw_cell_below (below_alloc (Below.refl _ _) _) hHeld.2.2.2.2.2.2⟩ (fun hHeld => ?_)
   clear hK K
   refine S.w 29 ?_
   refine last_ (i := 9) (N := some 30) (S.um 12 1023) rfl rfl (one_of HT_.out (by kernel_rfl)) (by decide) (fun K hK => ?_)
   refine Kd.N_append_step Pr.k45 (w0 := q3) (W := q3) (w.heap.size + 3) (by rfl) (.tmp 22) (.tmp 29) 43 45 (.agg #[(.int .i64 0), (.int .i64 0), (.int .i64 0), (.int .i64 0), (.slice none 0 0)]) 56 rfl Tryd.underlying43 Pr.info45 rfl (by decide) (by omega) (.slice A6 row.length c6) row (⟨y.f0, y.f1, y.f2, y.f3, ofL y.f4⟩ : Pr.S45) [.int .i64 y.f0, .int .i64 y.f1, .int .i64 y.f2, .int .i64 y.f3, .slice A7 (ofL y.f4).length c7] (fun q => w.heap.size + 3 ≤ q) (fun q => wr.heap.size ≤ q) rfl rfl HFK.out ?hokp (fun q hq => (Nat.le_trans (Nat.le_trans HSi.out HS3.out) hq : w.heap.size + 3 ≤ q)) HN3.out (Below.refl _ _) (Nat.le_trans HSi.out HS3.out) (by have h1 := HLEN.out; have h2 := HLT.out; have h3 := HL.out; omega) ?_
   case hokp => exact fun q (hq : wr.heap.size ≤ q) => (⟨Nat.le_trans HSi.out hq, fun he => (by have h1 := HNL.out q he.symm; omega)⟩ : w.heap.size + 3 ≤ q ∧ some q ≠ (Value.slice A6 row.length c6).ownBlock)
   intro v1 w9 hN9 hB9 hg9 hat9
   have hG9 := Lib.hid (blk_grown HG3.out hg9 (fun h => (by have := HNB.out _ h.symm; omega))); have hZ9 := Lib.hid (blk_grown HZ3.out hg9 (fun h => (by have := HNB.out _ h.symm; omega))); have hK9 := blk_grown HK3.out hg9 (fun h => (by have := HNB.out _ h.symm; omega))
   have hb9 := Lib.hid (pw_below_grown HB3.out _ HB3.out.size hg9 (fun q hq => (by have := HNB.out _ hq; omega)))
   have hs9 := Lib.hid (show w.heap.size + 3 ≤ w9.heap.size from Nat.le_trans (Nat.le_trans HSi.out HS3.out) hg9.size)
   obtain ⟨A9, c9, rfl⟩ := Kd.N_slice hN9
   have e9 : (row ++ [(⟨y.f0, y.f1, y.f2, y.f3, ofL y.f4⟩ : Pr.S45)]).length = row.length + 1 := by simp
   have m9 : w9.cell? ⟨w.heap.size + 1 + 1, 4, none⟩ = some (.slice A6 row.length c6) := (blk_cell hK9 4).trans rfl
   have f9 := blk_frozen hK9 4
   have HN9 := Lib.hid hN9; have HK9 := Lib.hid hK9
   refine hK.out _ _ ?_
   clear hK K hN9 hB9 hg9 hat9 hK9 HN3 HK3 HG3 HZ3 HB3
   refine S.w 30 ?_
   refine S.p 12 10 31 2047 HT_.out rfl rfl ?_
   refine last_ (i := 11) (N := none) (S.um 12 4095) rfl rfl (one_of HT_.out (by kernel_rfl)) (by decide) (fun K hK => ?_)
   refine skip_ (w1 := ?_) (by rfl) rfl ?_ ?_; rotate_left
   ·go_simp; rfl
   refine hK.out _ _ ?_; clear hK K hHeld
   refine done_ (done_of HT_.out (by kernel_rfl)) ?_; clear HT_ HW_
   go_wp2_with (fail)
   have K9 : (w9.setCell ⟨w.heap.size + 1 + 1, 4, none⟩ (.slice A9 (row.length + 1) c9)).heap[w.heap.size + 1 + 1]? = some (.cells #[.int .i64 e.f0, .int .i64 e.f1, .int .i64 e.f2, .int .i64 e.f3, .slice A9 (row ++ [(⟨y.f0, y.f1, y.f2, y.f3, ofL y.f4⟩ : Pr.S45)]).length c9] 45 (0, 0)) := by rw [e9]; exact blk_put HK9.out 4 _ rfl
   have hot := HOT.out
   rw [ofE_eq] at hot
   go_roundg (n + 1 - (i + 1))
   case measure => have h1 := HLT.out; have h2 := HQ.out; omega
   case rel => exact ⟨i + 1, A9, c9, by first | rfl | (rw [hwi]) | simp, Lib.hid HLT.out, Lib.hid rfl, Lib.hid (by rw [hot]; exact Kd.N_far HN9.out (fun q hq => (by show q ≠ w.heap.size + 1 + 1; have h : w.heap.size + 3 ≤ q := hq; omega)) _), Lib.hid (blk_far hG9.out (by show w.heap.size ≠ w.heap.size + 1 + 1; omega) _), Lib.hid (blk_far hZ9.out (by show w.heap.size + 1 ≠ w.heap.size + 1 + 1; omega) _), Lib.hid (by rw [hot]; exact K9), Lib.hid (by have h1 := hs9.out; simp; omega), Lib.hid (hb9.out.setCell (by show w.heap.size ≤ w.heap.size + 1 + 1; omega) _)⟩
  ·have hi : i = n := by have := HI.out; omega
   subst hi
   have hlt2 : decide ((i : Int) < (i : Int)) = false := decide_eq_false (by omega)
   have hall : e.f4.take i = e.f4 := List.take_of_length_le (by rw [HNN.out]; exact Nat.le_refl _)
   rw [hall] at HNi HKi
   clear x0 x1 x2 x3
   obtain ⟨m0, m1, m2, m3, m4⟩ := cls5 HKi.out
   obtain ⟨t0, t1, t2, t3, t4⟩ := cls5 HZi.out
   have u0 := blk_frozen HZi.out 0; have u1 := blk_frozen HZi.out 1; have u2 := blk_frozen HZi.out 2; have u3 := blk_frozen HZi.out 3; have u4 := blk_frozen HZi.out 4
   go_wp2_with (fail)
   clear m0 m1 m2 m3 m4 t0 t1 t2 t3 t4 u0 u1 u2 u3 u4
   generalize hq : ((((wr.setCell ⟨w.heap.size + 1, 0, none⟩ (.int .i64 e.f0)).setCell ⟨w.heap.size + 1, 1, none⟩ (.int .i64 e.f1)).setCell ⟨w.heap.size + 1, 2, none⟩ (.int .i64 e.f2)).setCell ⟨w.heap.size + 1, 3, none⟩ (.int .i64 e.f3)).setCell ⟨w.heap.size + 1, 4, none⟩ (.slice A6 (ofL e.f4).length c6) = q
   obtain ⟨kq, hkq, hbl⟩ := put5 HZi.out hq
   refine bodyPost_ret (results_cell_row rfl _ _ (w.heap.size + 1) 45 #[.int .i64 e.f0, .int .i64 e.f1, .int .i64 e.f2, .int .i64 e.f3, .slice A6 (ofL e.f4).length c6] (0, 0) _ rfl kq Tryd.underlying45 rfl (by kernel_rfl)) rfl ?_
   have hs := HSi.out
   have hN := Kd.N_V (base' := 0) (Kd.N_kept HNi.out hkq (fun q (h1 : w.heap.size + 3 ≤ q) (h2 : q = w.heap.size + 1) => (by omega)))
   exact ⟨A6, c6, rfl, Kd.V_mono hN (fun q (h : w.heap.size + 3 ≤ q) => (by omega)), HBi.out.trans (hbl w.heap.size (by omega))⟩
theorem of_all : ∀ (n : Nat) (e : Pr.S24), szE e ≤ n → szE e < 1000000 → OfC e
 | 0, e, h, _ => by have := szE_pos e; omega
 | n + 1, e, h, hb => by
  have hs := szE_eq e
  have hl := szL_len e.f4
  exact of_step e (by omega) (fun y hy => of_all n y (by have := szL_mem hy; omega) (by have := szL_mem hy; omega))
end Go.Proofs.YthocjdlcopmhiaaDoor.G
