import Derived.Test.YthocjdlcopmhiaaDoorProg
import Derived.Below
import Derived.Deep.Draws
import Derived.Deep.AppendLies
import Derived.Maps.AppendAt
import Derived.OwnWalk
import Derived.Laws.BytesArg
import Derived.Laws.MakeOwn
import Derived.Laws.OwnMore
import Derived.Deep.OwnRows
import Derived.Tactics
import Derived.Lib.ConvBytes
import Derived.Laws.Slices
import Derived.WalkKit
import Derived.KernelRfl
import Derived.RowKit3
import Derived.Deep.LoopGhost
import Derived.Deep.QuietTactic
import Derived.BigQuiet
import Derived.WideLaws
import Derived.Deep.DeepCutAuto
import Derived.Deep.CutBlock
import Derived.Deep.RegionHeld3
import Derived.Laws.Rows
import Derived.Lib.AppendStr
import Derived.ArgAppend
import Derived.Laws.IdiomCopy
import Derived.OrdersHeld
import Derived.Laws.BitsLemmas
import Derived.RowKit
import Derived.Test.YthocjdlcopmhiaaDoorWWords
import Derived.Test.YthocjdlcopmhiaaDoorWLast
import Derived.Test.YthocjdlcopmhiaaDoorWTab
import Derived.Test.YthocjdlcopmhiaaDoorWQPut
import Derived.Test.YthocjdlcopmhiaaDoorWApart
import Derived.Test.YthocjdlcopmhiaaDoorWArr
import Derived.Test.YthocjdlcopmhiaaDoorWZeros
import Derived.Test.YthocjdlcopmhiaaDoorWFoot
import Derived.Test.YthocjdlcopmhiaaDoorWKept
import Derived.Test.YthocjdlcopmhiaaDoorWShare
import Derived.Test.YthocjdlcopmhiaaDoorWN
import Derived.Test.YthocjdlcopmhiaaDoorWRepsOne
import Derived.Test.YthocjdlcopmhiaaDoorWGuard
import Derived.Test.YthocjdlcopmhiaaDoorWNEv
import Derived.Test.YthocjdlcopmhiaaDoorWMore
import Derived.Test.YthocjdlcopmhiaaDoorWEqStruct
import Derived.Test.YthocjdlcopmhiaaDoorWFour
import Derived.Test.YthocjdlcopmhiaaDoorWFootNe
import Derived.Test.YthocjdlcopmhiaaDoorWAt
import Derived.Test.YthocjdlcopmhiaaDoorWInv
import Derived.Test.YthocjdlcopmhiaaDoorWInvWords
import Derived.Test.YthocjdlcopmhiaaDoorM1
import Derived.Test.YthocjdlcopmhiaaDoorS
import Derived.Test.YthocjdlcopmhiaaDoorS3
import Derived.Test.YthocjdlcopmhiaaDoorPrx5
import Derived.Test.YthocjdlcopmhiaaDoorPrx3
import Derived.Lib.Hide
import Derived.Outline
import Derived.Test.YthocjdlcopmhiaaDoorPrx4
namespace Go.Proofs.YthocjdlcopmhiaaDoor.G
open Go.RowKit Go.Proofs.YthocjdlcopmhiaaDoorW.PrintWords Go.Proofs.YthocjdlcopmhiaaDoorW.PrintLast Go.Proofs.YthocjdlcopmhiaaDoorW.PrintMore
attribute [local go_sem] max2_int min2_int max_two min_two max_three min_three max_four min_four
set_option linter.unusedVariables false
set_option linter.unusedSimpArgs false
open GP (Cat Eps Pow)
theorem kidsF {W : World} {ok : Nat → Prop} {x : Pr.S63} {A4 : Option Addr} {c4 : Nat} {A6 : Option Addr} {c6 : Nat} (h : Kd.FK KN W ok x (NC x A4 c4 A6 c6)) : x.f2.length ≤ c6 ∧ Kd.F KN W ok A6 x.f2.length x.f2 := by
 obtain ⟨A4', c4', A6', c6', he, _, _, l6, g6⟩ := Pr.k63_openF h
 injection (Option.some.inj (show some (Value.slice A6 x.f2.length c6) = some (Value.slice A6' x.f2.length c6') from congrArg (fun l => l[6]?) he)) with ha _ hc
 rw [ha, hc]
 exact ⟨l6, g6⟩
theorem kid_at {bm : Nat} {W0 w : World} {A6 : Option Addr} {l : List Pr.S63} (hst : Step bm W0 w) (hF : Kd.F KN W0 (fun k => k ≠ bm) A6 l.length l) (i : Nat) (hi : i < l.length) :
  ∃ ad A4 c4 A6' c6, A6 = some ad ∧ w.cell? (ad.add (i * 7)) = some (.int .i64 (Pr.rd_T63 l i).f0.f0) ∧ w.cell? ⟨(ad.add (i * 7)).block, (ad.add (i * 7)).off + 1, none⟩ = some (.int .i64 (Pr.rd_T63 l i).f0.f1) ∧ w.cell? ⟨(ad.add (i * 7)).block, (ad.add (i * 7)).off + 2, none⟩ = some (.int .i64 (Pr.rd_T63 l i).f0.f2) ∧ w.cell? ⟨(ad.add (i * 7)).block, (ad.add (i * 7)).off + 3, none⟩ = some (.int .i64 (Pr.rd_T63 l i).f0.f3) ∧ w.cell? ⟨(ad.add (i * 7)).block, (ad.add (i * 7)).off + 4, none⟩ = some (.slice A4 (Pr.rd_T63 l i).f0.f4.length c4) ∧ w.cell? ⟨(ad.add (i * 7)).block, (ad.add (i * 7)).off + 5, none⟩ = some (.int .i64 (Pr.rd_T63 l i).f1) ∧ w.cell? ⟨(ad.add (i * 7)).block, (ad.add (i * 7)).off + 6, none⟩ = some (.slice A6' (Pr.rd_T63 l i).f2.length c6) ∧
   Kd.FK KN W0 (fun k => k ≠ bm) (Pr.rd_T63 l i) (NC (Pr.rd_T63 l i) A4 c4 A6' c6) := by
 obtain ⟨ad, cs, rfl, _, hK, hc0, hok⟩ := Kd.F_get hF Pr.z63 (i : Int) (by omega) (by omega)
 have hne := hok (by decide)
 rw [Int.toNat_natCast] at hK hc0
 have hK' : Kd.FK KN W0 (fun k => k ≠ bm) (Pr.rd_T63 l i) cs := by unfold Pr.rd_T63; rw [Int.toNat_natCast]; exact hK
 obtain ⟨A4, c4, A6, c6, rfl, _⟩ := Pr.k63_openF hK'
 have hc : ∀ j u, (NC (Pr.rd_T63 l i) A4 c4 A6 c6)[j]? = some u → w.cell? (ad.add (i * 7 + j)) = some u := fun j u hu => by
  refine cell_kept (hc0 j u hu) hst.k ?_
  show ¬ (ad.add (i * 7 + j)).block = bm
  rw [add_block]
  exact hne
 exact ⟨ad, A4, c4, A6, c6, rfl, hc 0 _ rfl, by rw [← add_field _ _ 1 (by omega)]; exact hc 1 _ rfl, by rw [← add_field _ _ 2 (by omega)]; exact hc 2 _ rfl, by rw [← add_field _ _ 3 (by omega)]; exact hc 3 _ rfl, by rw [← add_field _ _ 4 (by omega)]; exact hc 4 _ rfl, by rw [← add_field _ _ 5 (by omega)]; exact hc 5 _ rfl, by rw [← add_field _ _ 6 (by omega)]; exact hc 6 _ rfl, hK'⟩
def powP (ws : List Int) (L : List Int → Prop) (i m : Nat) (j : Nat) : Prop := To ws (Pow L m) i j
theorem powP_zero (ws : List Int) (L : List Int → Prop) (i : Nat) (hi : i ≤ ws.length) (j : Nat) : powP ws L i 0 j ↔ j = i := to_eps ws i j hi
theorem powP_succ (ws : List Int) (L : List Int → Prop) (i m j : Nat) : powP ws L i (m + 1) j ↔ ∃ q, powP ws L i m q ∧ To ws L q j := to_cat ws (Pow L m) L i j
theorem powP_on (ws : List Int) (L : List Int → Prop) (i m : Nat) : onL ws L (powP ws L i m) = rowP ws.length (powP ws L i (m + 1)) := rowP_ext fun j _ => by
 rw [powP_succ]
 constructor
 ·rintro ⟨q, _, h1, h2⟩; exact ⟨q, h1, h2⟩
 ·rintro ⟨q, h1, h2⟩; exact ⟨q, h1.2.1, h1, h2⟩
theorem powP_stall {ws : List Int} {L : List Int → Prop} {i m : Nat} (h : ∀ j, j ≤ ws.length → (powP ws L i (m + 1) j ↔ powP ws L i m j)) : ∀ d j, powP ws L i (m + d) j ↔ powP ws L i m j
 | 0, j => Iff.rfl
 | d + 1, j => by
  have ih := powP_stall h d
  rw [show m + (d + 1) = (m + d) + 1 by omega, powP_succ]
  constructor
  ·rintro ⟨q, h1, h2⟩
   exact (h j h2.2.1).1 ((powP_succ ws L i m j).2 ⟨q, (ih q).1 h1, h2⟩)
  ·intro h1
   obtain ⟨q, h2, h3⟩ := (powP_succ ws L i m j).1 ((h j h1.2.1).2 h1)
   exact ⟨q, (ih q).2 h2, h3⟩
theorem powP_stay {ws : List Int} {L : List Int → Prop} {i m t : Nat} (h : ∀ j, j ≤ ws.length → (powP ws L i (m + 1) j ↔ powP ws L i m j)) (hm : m ≤ t) : rowP ws.length (powP ws L i m) = rowP ws.length (powP ws L i t) := rowP_ext fun j _ => by
 rw [show t = m + (t - m) by omega]
 exact (powP_stall h _ j).symm
def sumP (ws : List Int) (L : List Int → Prop) (i lo q : Nat) (j : Nat) : Prop := ∃ p, lo ≤ p ∧ p ≤ q ∧ powP ws L i p j
theorem sumP_one (ws : List Int) (L : List Int → Prop) (i lo : Nat) : rowP ws.length (powP ws L i lo) = rowP ws.length (sumP ws L i lo lo) := rowP_ext fun j _ => by
 constructor
 ·intro h; exact ⟨lo, Nat.le_refl _, Nat.le_refl _, h⟩
 ·rintro ⟨p, h1, h2, h3⟩
  obtain rfl : p = lo := by omega
  exact h3
theorem sumP_step (ws : List Int) (L : List Int → Prop) (i lo q : Nat) (h : lo ≤ q) : rowP ws.length (fun j => sumP ws L i lo q j ∨ powP ws L i (q + 1) j) = rowP ws.length (sumP ws L i lo (q + 1)) := rowP_ext fun j _ => by
 constructor
 ·rintro (⟨p, h1, h2, h3⟩ | h1)
  ·exact ⟨p, h1, by omega, h3⟩
  ·exact ⟨q + 1, by omega, Nat.le_refl _, h1⟩
 ·rintro ⟨p, h1, h2, h3⟩
  by_cases hp : p = q + 1
  ·subst hp; exact .inr h3
  ·exact .inl ⟨p, h1, by omega, h3⟩
theorem sumP_stall {ws : List Int} {L : List Int → Prop} {i lo q : Nat} (h : ∀ j, j ≤ ws.length → powP ws L i (q + 1) j → sumP ws L i lo q j) (hq : lo ≤ q) : ∀ d p, lo ≤ p → p ≤ q + d → ∀ j, powP ws L i p j → sumP ws L i lo q j
 | 0, p, h1, h2, j, h3 => ⟨p, h1, h2, h3⟩
 | d + 1, p, h1, h2, j, h3 => by
  have ih := sumP_stall h hq d
  by_cases hp : p ≤ q + d
  ·exact ih p h1 hp j h3
  ·obtain ⟨p', rfl⟩ : ∃ p', p = p' + 1 := ⟨p - 1, by omega⟩
   obtain ⟨r, h4, h5⟩ := (powP_succ ws L i p' j).1 h3
   obtain ⟨s, h6, h7, h8⟩ := ih p' (by omega) (by omega) r h4
   by_cases hs : s = q
   ·subst hs
    exact h j h5.2.1 ((powP_succ ws L i s j).2 ⟨r, h8, h5⟩)
   ·exact ⟨s + 1, by omega, by omega, (powP_succ ws L i s j).2 ⟨r, h8, h5⟩⟩
noncomputable def miss (P : Nat → Prop) : Nat → Nat
 | 0 => 0
 | n + 1 => miss P n + if dec (P n) = true then 0 else 1
theorem miss_le {P Q : Nat → Prop} : ∀ n, (∀ j, j < n → P j → Q j) → miss Q n ≤ miss P n
 | 0, _ => Nat.le_refl _
 | n + 1, h => by
  have ih := miss_le n (fun j hj => h j (by omega))
  unfold miss
  by_cases hp : P n
  ·rw [if_pos (dec_true hp), if_pos (dec_true (h n (by omega) hp))]; omega
  ·rw [if_neg (fun hd => hp (dec_iff.1 hd))]; split <;> omega
theorem miss_lt {P Q : Nat → Prop} : ∀ n, (∀ j, j < n → P j → Q j) → (∃ j, j < n ∧ Q j ∧ ¬ P j) → miss Q n < miss P n
 | 0, _, ⟨j, h, _⟩ => by omega
 | n + 1, h, ⟨j, h1, h2, h3⟩ => by
  unfold miss
  by_cases hj : j = n
  ·subst hj
   have ih := miss_le j (fun i hi => h i (by omega))
   rw [if_pos (dec_true h2), if_neg (fun hd => h3 (dec_iff.1 hd))]; omega
  ·have ih := miss_lt n (fun i hi => h i (by omega)) ⟨j, by omega, h2, h3⟩
   by_cases hp : P n
   ·rw [if_pos (dec_true hp), if_pos (dec_true (h n (by omega) hp))]; omega
   ·rw [if_neg (fun hd => hp (dec_iff.1 hd))]; split <;> omega
theorem miss_all (P : Nat → Prop) : ∀ n, miss P n ≤ n
 | 0 => Nat.le_refl _
 | n + 1 => by have := miss_all P n; unfold miss; split <;> omega
theorem times_row {ws : List Int} {L : List Int → Prop} {i lo : Nat} {hi : Int} {q : Nat} (hlo : lo ≤ q) (h1 : ∀ p : Nat, lo ≤ p → p ≤ q → hi = -1 ∨ (p : Int) ≤ hi) (h2 : ∀ p : Nat, lo ≤ p → (hi = -1 ∨ (p : Int) ≤ hi) → ∀ j, powP ws L i p j → sumP ws L i lo q j) :
  rowP ws.length (sumP ws L i lo q) = rowL ws (TimesI L (lo : Int) hi) i := rowP_ext fun j _ => by
 constructor
 ·rintro ⟨p, h3, h4, h5⟩
  exact ⟨h5.1, h5.2.1, p, by omega, h1 p h3 h4, h5.2.2⟩
 ·rintro ⟨h3, h4, p, h5, h6, h7⟩
  exact h2 p (by omega) h6 j ⟨h3, h4, h7⟩
def AgainOk (Lg : Int → List Int → Prop) (W0 : World) (gm bm : Nat) (ws : List Int) (x : Pr.S63) : Prop :=
 ∀ (Z : Nat → Prop) (w : World) (i : Nat) (A4 : Option Addr) (c4 : Nat) (A6 : Option Addr) (c6 : Nat), Step bm W0 w → Memo Lg ws bm Z w → ¬ Z bm → (∀ k, Z k → k < w.heap.size) → i ≤ ws.length → Kd.FK KN W0 (fun k => k ≠ bm) x (NC x A4 c4 A6 c6) →
  Calls Tryd.prog 37 #[.pointer (some ⟨gm, 0, none⟩), NV x A4 c4 A6 c6, .int .i64 (i : Int)] w (RowPost Lg ws bm Z w (rowL ws (TimesI (Lg (Pr.rd_T63 x.f2 0).f1) x.f0.f2 x.f0.f3) i))
theorem OnOk.call {Lg : Int → List Int → Prop} {W0 : World} {gm bm : Nat} {ws : List Int} {x : Pr.S63} (h : OnOk Lg W0 gm bm ws x) (Z : Nat → Prop) (w : World) (P : Nat → Prop) (Al : Option Addr) (cl : Nat) (A4 : Option Addr) (c4 : Nat) (A6 : Option Addr) (c6 : Nat) (h1 : Step bm W0 w) (h2 : Memo Lg ws bm Z w) (h3 : ¬ Z bm) (h4 : ∀ k, Z k → k < w.heap.size)
  (h5 : Kd.V Kd.bool 4 w 0 (fun k => k ≠ bm) (.slice Al (rowP ws.length P).length cl) (rowP ws.length P)) (h6 : Kd.FK KN W0 (fun k => k ≠ bm) x (NC x A4 c4 A6 c6)) :
  Calls Tryd.prog 36 #[.pointer (some ⟨gm, 0, none⟩), NV x A4 c4 A6 c6, .slice Al (rowP ws.length P).length cl] w (RowPost Lg ws bm Z w (onL ws (Lg x.f1) P)) := h Z w P Al cl A4 c4 A6 c6 h1 h2 h3 h4 h5 h6
set_option maxHeartbeats 8000000 in
set_option maxRecDepth 100000 in
theorem again_calls (Lg : Int → List Int → Prop) (W0 : World) (gm bm : Nat) (ws : List Int) (Aw : Option Addr) (cw : Nat) (x : Pr.S63) (henv : Env W0 gm bm ws Aw cw) (hk : x.f2.length = 1) (hlo0 : 0 ≤ x.f0.f2) (hlo1 : x.f0.f2 ≤ 1000) (hhi : x.f0.f3 = -1 ∨ x.f0.f2 ≤ x.f0.f3) (hy : OnOk Lg W0 gm bm ws (Pr.rd_T63 x.f2 0)) : AgainOk Lg W0 gm bm ws x := by
 intro Z w i A4 c4 A6 c6 hst hm hZb hZ hi hxk
 have hu63 := Tryd.underlying63; have hu24 := Tryd.underlying24
 obtain ⟨lo, hlo⟩ : ∃ lo : Nat, x.f0.f2 = lo := ⟨x.f0.f2.toNat, by omega⟩
 have hF := (kidsF hxk).2
 have HE := Lib.hid henv; have HY := Lib.hid hy; have HST := Lib.hid hst; have HM := Lib.hid hm; have HZB := Lib.hid hZb; have HZ := Lib.hid hZ; have HXK := Lib.hid hxk; have HF := Lib.hid hF; have HK := Lib.hid hk; have HLO := Lib.hid hlo1; have HHI := Lib.hid hhi; have HI := Lib.hid hi
 have HW := Lib.hid henv.w
 have M0 := Lib.hid (blk_kept henv.m hst.k henv.ne)
 rw [hlo] at HLO HHI ⊢
 have KXX : NB x A4 c4 A6 c6 = .cells #[.int .i64 x.f0.f0, .int .i64 x.f0.f1, .int .i64 (lo : Int), .int .i64 x.f0.f3, .slice A4 x.f0.f4.length c4, .int .i64 x.f1, .slice A6 x.f2.length c6] 63 (0, 0) := by unfold NB; rw [hlo]
 have KXV : NV x A4 c4 A6 c6 = .agg #[.int .i64 x.f0.f0, .int .i64 x.f0.f1, .int .i64 (lo : Int), .int .i64 x.f0.f3, .slice A4 x.f0.f4.length c4, .int .i64 x.f1, .slice A6 x.f2.length c6] := by unfold NV; rw [hlo]
 rw [KXV]
 generalize hyy : Pr.rd_T63 x.f2 0 = y at HY ⊢
 have HYY := Lib.hid hyy
 have hbm := hm.lt
 have HBM := Lib.hid hbm
 clear henv hy hst hm hZb hZ hxk hF hk hlo1 hhi hi hlo0 hlo hyy KXV
 have NLEN := HE.out.len
 generalize hN : ws.length = n at NLEN
 have HNN := Lib.hid hN
 have HN := Lib.hid NLEN
 have a0 := (blk_cell M0.out 0).trans rfl
 go_enter Tryd.func37, Tryd.ntmps37
 have hby := below_alloc (Below.refl w.heap.size w) (.cells #[.int .i64 x.f0.f0, .int .i64 x.f0.f1, .int .i64 (lo : Int), .int .i64 x.f0.f3, .slice A4 x.f0.f4.length c4, .int .i64 x.f1, .slice A6 x.f2.length c6] 63)
 go_upto_region 1 with (fail)
 have KA : (w.alloc (.cells #[.int .i64 x.f0.f0, .int .i64 x.f0.f1, .int .i64 (lo : Int), .int .i64 x.f0.f3, .slice A4 x.f0.f4.length c4, .int .i64 x.f1, .slice A6 x.f2.length c6] 63)).heap[w.heap.size]? = some (.cells #[.int .i64 x.f0.f0, .int .i64 x.f0.f1, .int .i64 (lo : Int), .int .i64 x.f0.f3, .slice A4 x.f0.f4.length c4, .int .i64 x.f1, .slice A6 x.f2.length c6] 63 (0, 0)) := blk_new w _
 have HBA := Lib.hid hby; have KXA := Lib.hid KA; have MA := Lib.hid (blk_below M0.out hby)
 have a0 : (w.alloc (.cells #[.int .i64 x.f0.f0, .int .i64 x.f0.f1, .int .i64 (lo : Int), .int .i64 x.f0.f3, .slice A4 x.f0.f4.length c4, .int .i64 x.f1, .slice A6 x.f2.length c6] 63)).cell? ⟨gm, 0, none⟩ = some (.slice Aw n cw) := (blk_cell MA.out 0).trans (by rw [HNN.out]; rfl)
 have hsz : w.heap.size < (w.alloc (.cells #[.int .i64 x.f0.f0, .int .i64 x.f0.f1, .int .i64 (lo : Int), .int .i64 x.f0.f3, .slice A4 x.f0.f4.length c4, .int .i64 x.f1, .slice A6 x.f2.length c6] 63)).heap.size := by simp
 clear hby KA
 generalize w.alloc (.cells #[.int .i64 x.f0.f0, .int .i64 x.f0.f1, .int .i64 (lo : Int), .int .i64 x.f0.f3, .slice A4 x.f0.f4.length c4, .int .i64 x.f1, .slice A6 x.f2.length c6] 63) = wA at HBA KXA MA a0 hsz ⊢
 go_upto_region 2 with (first | ((with_reducible refine gate_dst (N := 17) rfl ?_); refine Kd.R_make (w0 := wA) Kd.bool wA.heap.size 4 rfl (N := 17) rfl 66 _ _ rfl ((n : Int) + 1) ?hx ?hy Tryd.underlying66 (.bool false) 1 (by kernel_rfl) rfl (by decide) (by decide) false (ok := fun _ => True) (okp := fun _ => True) rfl (fun _ hk => hk) trivial (by omega) (by omega) (Below.refl _ _) (Nat.le_refl _) ?_; (case hx => rfl); (case hy => rfl); intro v1 w1 ho1 hb1 hg1 hn1; have HO1 := Lib.hid ho1; have HB1 := Lib.hid hb1; clear ho1 hb1 hg1 hn1))
 have hr1 := HO1.out
 rw [show ((n : Int) + 1).toNat = n + 1 by omega, rowP_none] at hr1
 obtain ⟨g, c, rfl, hgb, hglt, _⟩ := Kd.R_form hr1 (by rw [rowP_len]; omega)
 rw [rowP_len] at hr1 ⊢
 have hrg := R_at hr1
 have hin : i ≤ n := by have := HI.out; have := HNN.out; omega
 obtain ⟨hcl, hfz⟩ := Kd.R_cell false (show Kd.R Kd.bool 4 w1 g (fun k => k = g) (.slice (some ⟨g, 0, none⟩) (rowP n (fun _ => False)).length c) (rowP n (fun _ => False)) by rw [rowP_len]; exact hrg) (i : Int) (by omega) (by rw [rowP_len]; omega)
 have hpt := Kd.R_put (show Kd.R Kd.bool 4 w1 g (fun k => k = g) (.slice (some ⟨g, 0, none⟩) (rowP n (fun _ => False)).length c) (rowP n (fun _ => False)) by rw [rowP_len]; exact hrg) (i : Int) true
 rw [Int.toNat_natCast] at hcl hfz hpt
 rw [rowP_set hin, rowP_len] at hpt
 have hp0 : (0 ≤ (i : Int)) = True := eq_true (by omega)
 have hp1 : ((i : Int) < (n : Int) + 1) = True := eq_true (by omega)
 have e0 : rowP n (fun j => False ∨ j = i) = rowP n (powP ws (Lg y.f1) i 0) := rowP_ext fun j _ => by rw [powP_zero ws _ i HI.out]; simp
 rw [e0] at hpt
 have hbw : Below w.heap.size w w1 := below_step HBA.out HB1.out
 have HG := Lib.hid (show w.heap.size < g by have := HBA.out.size; omega)
 have KX1 := Lib.hid (blk_below KXA.out HB1.out)
 have HM1 := Lib.hid ((HM.out.zone (Z' := fun k => Z k ∨ k = g) (fun k hk => hk.elim .inl (fun h => .inr (by have := HBA.out.size; omega)))).below hbw); have HS1 := Lib.hid ((Step.refl bm w).below hbw (Nat.le_of_lt HBM.out))
 have HPT := Lib.hid hpt
 clear hr1 hrg hpt e0 hbw HB1 HBA MA a0 hsz HO1 KXA
 go_upto_region 3 with (fail)
 clear hcl hfz hp0 hp1
 have hgbm : ¬ g = bm := by have := HG.out; have := HBM.out; omega
 have hgZ : ¬ Z g := fun hz => by have := HZ.out g hz; have := HG.out; omega
 have HGB := Lib.hid hgbm; have HGZ := Lib.hid hgZ
 have hk1 : Kept w1 (w1.setCell ⟨g, i, none⟩ (.bool true)) (fun k => k = g) := Kept.setCell (S := fun k => k = g) (Kept.refl w1 _) (p := ⟨g, i, none⟩) (.inl rfl) _
 have HM2 := Lib.hid ((HM1.out.kept hk1 (fun k h => .inr h) (fun h => h.elim HZB.out (fun h => hgbm h.symm))).zone (Z' := Z) (fun k h => .inl (.inl h)))
 have HS2 := Lib.hid (HS1.out.set (p := ⟨g, i, none⟩) (by show w.heap.size ≤ g; have := HG.out; omega) (by show bm ≤ g; have := HG.out; have := HBM.out; omega) (.bool true))
 have KX2 := Lib.hid (blk_kept KX1.out hk1 (fun h => by have := HG.out; omega))
 have HV2 : Hid (RowV bm Z (w1.setCell ⟨g, i, none⟩ (.bool true)) (some ⟨g, 0, none⟩) c (rowP n (powP ws (Lg y.f1) i 0))) := Lib.hid (R_view (show Kd.R Kd.bool 4 (w1.setCell ⟨g, i, none⟩ (.bool true)) g (fun k => k = g) (.slice (some ⟨g, 0, none⟩) (n + 1) c) (rowP n (powP ws (Lg y.f1) i 0)) from HPT.out.1) ⟨hgbm, hgZ⟩)
 clear HM1 HS1 KX1 HPT hk1 hgbm hgZ hgb hglt
 generalize w1.setCell ⟨g, i, none⟩ (.bool true) = w2 at HM2 HS2 KX2 HV2 ⊢
 rw [HK.out] at KX2 ⊢
 have HXL := Lib.hid HK.out
 have x2 : w2.cell? ⟨w.heap.size, 2, none⟩ = some (.int .i64 (lo : Int)) := (blk_cell KX2.out 2).trans rfl
 go_wp2_with (fail)
 clear x2
 go_loopg [7, 24] lo (fun kq v7 v24 w' => ∃ (q : Nat) (Al : Option Addr) (cl : Nat), v7 = .slice Al (n + 1) cl ∧ v24 = .int .i64 q ∧ Hid (q ≤ lo) ∧ Hid (kq = lo - q) ∧ Hid (RowV bm Z w' Al cl (rowP n (powP ws (Lg y.f1) i q))) ∧ Hid (Memo Lg ws bm Z w') ∧ Hid (Step bm w w') ∧ Hid (w'.heap[w.heap.size]? = some (.cells #[.int .i64 x.f0.f0, .int .i64 x.f0.f1, .int .i64 (lo : Int), .int .i64 x.f0.f3, .slice A4 x.f0.f4.length c4, .int .i64 x.f1, .slice A6 1 c6] 63 (0, 0))))
 case atStart => exact ⟨0, some ⟨g, 0, none⟩, c, rfl, rfl, Lib.hid (Nat.zero_le _), Lib.hid rfl, HV2, HM2, HS2, KX2⟩
 case round =>
  obtain ⟨q, Al, cl, rfl, rfl, HQL, HKQ, HV, HMq, HSq, KXq⟩ := hrel
  clear HV2 HM2 HS2 KX2
  by_cases hlt : q < lo
  ·have hlt2 : decide ((q : Int) < (lo : Int)) = true := decide_eq_true (by omega)
   have hw : wrap64 ((q : Int) + 1) = ((q + 1 : Nat) : Int) := by have := HLO.out; unfold wrap64; omega
   obtain ⟨ad, B4, b4, B6, b6, rfl, p0, p1, p2, p3, p4, p5, p6, hFK⟩ := kid_at (HST.out.trans HSq.out) (by have := HF.out; exact this) 0 (by rw [HXL.out]; omega)
   rw [show Pr.rd_T63 x.f2 ((0 : Nat) : Int) = y from HYY.out] at p0 p1 p2 p3 p4 p5 p6 hFK
   have ea : ad.add (0 * 7) = ad := by unfold Addr.add; simp
   rw [ea] at p0 p1 p2 p3 p4 p5 p6
   have hlt3 : decide (q < lo) = true := decide_eq_true hlt
   have x6 : wr.cell? ⟨w.heap.size, 6, none⟩ = some (.slice (some ad) 1 c6) := (blk_cell KXq.out 6).trans rfl
   have HLT := Lib.hid hlt; have HFK := Lib.hid hFK
   clear hlt hFK
   go_wp2_with (fail)
   clear p0 p1 p2 p3 p4 p5 p6 x6 ea
   refine calls_of_args (args' := #[.pointer (some ⟨gm, 0, none⟩), NV y B4 b4 B6 b6, .slice Al (rowP ws.length (powP ws (Lg y.f1) i q)).length cl]) (by rw [rowP_len, HNN.out]) ((OnOk.call HY.out Z wr (powP ws (Lg y.f1) i q) Al cl B4 b4 B6 b6 (HST.out.trans HSq.out) HMq.out HZB.out (fun k hk => Nat.lt_of_lt_of_le (HZ.out k hk) HSq.out.size) (by rw [HNN.out]; exact Kd.V_mono HV.out (fun k hk => hk.1)) HFK.out).mono ?_)
   rintro e w3 ⟨A3, c3, he, hv3, hm3, hs3⟩
   rw [powP_on, HNN.out] at he hv3
   rw [rowP_len] at he
   subst he
   have HVl := Lib.hid (Kd.V_kept HV.out hs3.k (fun k h1 h2 => h1.1 h2))
   have HV3 := Lib.hid hv3; have HM3 := Lib.hid hm3; have HS3 := Lib.hid (HSq.out.trans hs3); have KX3 := Lib.hid (blk_kept KXq.out hs3.k (fun h => by have := HBM.out; omega))
   clear hv3 hm3 hs3 HV HMq HSq KXq HFK
   go_wp2_with (fail)
   obtain ⟨r, hr1, hr2⟩ := equal_row n (n + 2) (powP ws (Lg y.f1) i (q + 1)) (powP ws (Lg y.f1) i q) (by omega) HN.out
   refine calls_of_args (args' := #[.slice A3 (rowP n (powP ws (Lg y.f1) i (q + 1))).length c3, .slice Al (rowP n (powP ws (Lg y.f1) i q)).length cl]) (by rw [rowP_len, rowP_len]) ((Pr.slices_Equal_bool_bool.calls (n + 2) A3 c3 _ Al cl _ r w3 (Kd.V_reads' HV3.out).2.2 (Kd.V_reads' HV3.out).2.1 (Kd.V_reads' HVl.out).2.2 (Kd.V_reads' HVl.out).2.1 hr1).mono ?_)
   rintro e w4 ⟨rfl, hd4⟩
   have hb4 := hd4.below
   have HVl4 := Lib.hid (Kd.V_below HVl.out hb4); have HV4 := Lib.hid (Kd.V_below HV3.out hb4); have HM4 := Lib.hid (HM3.out.below hb4); have HS4 := Lib.hid (HS3.out.below hb4 (Nat.le_trans (Nat.le_of_lt HBM.out) HS3.out.size)); have KX4 := Lib.hid (blk_below KX3.out hb4)
   have HR2 := Lib.hid hr2
   clear hd4 hb4 hr1 hr2 HV3 HVl HM3 HS3 KX3
   cases r
   case true =>
    have hst := HR2.out.1 rfl
    have HVz : Hid (RowV bm Z w4 Al cl (rowP n (powP ws (Lg y.f1) i lo))) := Lib.hid (by
     have := powP_stay (ws := ws) (L := Lg y.f1) (i := i) (m := q) (t := lo) (by rw [HNN.out]; exact hst) (by have := HLT.out; omega)
     rw [HNN.out] at this
     rw [← this]
     exact HVl4.out)
    clear hst HR2 HVl4 HV4
    go_wp2_with (fail)
    have HVy := Lib.hid (Kd.V_below HVz.out (Below.refl _ _)); clear HVz
    have hcl : slices_Clone_bool.f (rowP n (powP ws (Lg y.f1) i lo)) = some (rowP n (powP ws (Lg y.f1) i lo)) := by unfold slices_Clone_bool.f; rw [if_pos (by rw [rowP_len]; have := HN.out; omega)]
    refine calls_of_args (args' := #[.slice Al (rowP n (powP ws (Lg y.f1) i lo)).length cl]) (by rw [rowP_len]) ((slices_Clone_bool.calls Al cl _ _ w4 (Kd.V_reads' HVy.out).2.2 (Kd.V_reads' HVy.out).2.1 hcl).mono ?_)
    clear hcl
    rintro e w5 ⟨v5, rfl, hr5, hb5⟩
    obtain ⟨g5, c5, rfl, hgb5, hgl5, _⟩ := Kd.R_form hr5 (by rw [rowP_len]; omega)
    rw [rowP_len] at hr5 ⊢
    have hr5' := R_at hr5
    have eone := sumP_one ws (Lg y.f1) i lo
    rw [HNN.out] at eone
    rw [eone] at hr5'
    have HG5 := Lib.hid (show w.heap.size < g5 by have := blk_lt KX4.out; omega)
    have HG5B := Lib.hid (show ¬ g5 = bm by have := HG5.out; have := HBM.out; omega)
    have HG5Z := Lib.hid (show ¬ Z g5 from fun hz => by have := HZ.out g5 hz; have := HG5.out; omega)
    have HR5 := Lib.hid hr5'
    have HM5 := Lib.hid ((HM4.out.zone (Z' := fun k => Z k ∨ k = g5) (fun k hk => hk.elim .inl (fun h => .inr (by omega)))).below hb5)
    have HS5 := Lib.hid (HS4.out.below hb5 (Nat.le_trans (Nat.le_of_lt HBM.out) HS4.out.size)); have KX5 := Lib.hid (blk_below KX4.out hb5)
    have HV5 := Lib.hid (Kd.V_mono (Kd.V_below HVy.out hb5) (ok' := fun k => k ≠ bm) (fun k hk => hk.1))
    clear hr5 hr5' hb5 hgb5 hgl5 HM4 HS4 KX4 HVy eone
    have x2 : w5.cell? ⟨w.heap.size, 2, none⟩ = some (.int .i64 (lo : Int)) := (blk_cell KX5.out 2).trans rfl
    go_wp2_with (fail)
    clear x2
    go_loopg [7, 10] (miss (sumP ws (Lg y.f1) i lo lo) (n + 1)) (fun kq v7 v10 w' => ∃ (q : Nat) (Al : Option Addr) (cl : Nat), v7 = .slice Al (n + 1) cl ∧ v10 = .int .i64 q ∧ Hid (lo ≤ q) ∧ Hid (x.f0.f3 = -1 ∨ (q : Int) ≤ x.f0.f3) ∧ Hid (kq = miss (sumP ws (Lg y.f1) i lo q) (n + 1)) ∧ Hid (q + miss (sumP ws (Lg y.f1) i lo q) (n + 1) ≤ lo + n + 1) ∧ Hid (Kd.V Kd.bool 4 w' 0 (fun k => k ≠ bm) (.slice Al (rowP n (powP ws (Lg y.f1) i q)).length cl) (rowP n (powP ws (Lg y.f1) i q))) ∧ Hid (Kd.R Kd.bool 4 w' g5 (fun k => k = g5) (.slice (some ⟨g5, 0, none⟩) (n + 1) c5) (rowP n (sumP ws (Lg y.f1) i lo q))) ∧ Hid (Memo Lg ws bm (fun k => Z k ∨ k = g5) w') ∧ Hid (Step bm w w') ∧ Hid (w'.heap[w.heap.size]? = some (.cells #[.int .i64 x.f0.f0, .int .i64 x.f0.f1, .int .i64 (lo : Int), .int .i64 x.f0.f3, .slice A4 x.f0.f4.length c4, .int .i64 x.f1, .slice (some ad) 1 c6] 63 (0, 0))))
    case atStart => exact ⟨lo, Al, cl, rfl, rfl, Lib.hid (Nat.le_refl _), HHI, Lib.hid rfl, Lib.hid (by have := miss_all (sumP ws (Lg y.f1) i lo lo) (n + 1); omega), HV5, HR5, HM5, HS5, KX5⟩
    case round =>
     obtain ⟨q, Al, cl, rfl, rfl, HLQ, HHQ, HKQ, HBQ, HV, HRq, HMq, HSq, KXq⟩ := hrel
     clear HV5 HR5 HM5 HS5 KX5
     by_cases hm1 : x.f0.f3 = -1
     ·have b1 : (x.f0.f3 == -1) = true := by simpa using hm1
      have HM1 := Lib.hid hm1
      clear hm1
      have hw : wrap64 ((q : Int) + 1) = ((q + 1 : Nat) : Int) := by have h1 := HLO.out; have h2 := HBQ.out; have h3 := HN.out; unfold wrap64; omega
      obtain ⟨ad2, B4, b4, B6, b6, had, p0, p1, p2, p3, p4, p5, p6, hFK⟩ := kid_at (HST.out.trans HSq.out) (by have := HF.out; exact this) 0 (by rw [HXL.out]; omega)
      rw [show Pr.rd_T63 x.f2 ((0 : Nat) : Int) = y from HYY.out] at p0 p1 p2 p3 p4 p5 p6 hFK
      obtain rfl : ad2 = ad := (Option.some.inj had).symm
      have ea : ad2.add (0 * 7) = ad2 := by unfold Addr.add; simp
      rw [ea] at p0 p1 p2 p3 p4 p5 p6
      have HFK := Lib.hid hFK
      clear hFK
      have x3 : wr.cell? ⟨w.heap.size, 3, none⟩ = some (.int .i64 x.f0.f3) := (blk_cell KXq.out 3).trans rfl
      have x6 : wr.cell? ⟨w.heap.size, 6, none⟩ = some (.slice (some ad2) 1 c6) := (blk_cell KXq.out 6).trans rfl
      go_wp2_with (fail)
      clear p0 p1 p2 p3 p4 p5 p6 x3 x6 ea
      refine calls_of_args (args' := #[.pointer (some ⟨gm, 0, none⟩), NV y B4 b4 B6 b6, .slice Al (rowP ws.length (powP ws (Lg y.f1) i q)).length cl]) (by rw [rowP_len, HNN.out]) ((OnOk.call HY.out (fun k => Z k ∨ k = g5) wr (powP ws (Lg y.f1) i q) Al cl B4 b4 B6 b6 (HST.out.trans HSq.out) HMq.out (fun h => h.elim HZB.out (fun h => HG5B.out h.symm)) (fun k hk => hk.elim (fun h => Nat.lt_of_lt_of_le (HZ.out k h) HSq.out.size) (fun h => by rw [h]; exact Kd.R_lt HRq.out g5 rfl)) (by rw [HNN.out]; exact HV.out) HFK.out).mono ?_)
      rintro e w6 ⟨A3, c3, he, hv3, hm3, hs3⟩
      rw [powP_on, HNN.out] at he hv3
      rw [rowP_len] at he
      subst he
      have HR6 := Lib.hid (Kd.R_kept HRq.out hs3.k (fun k h1 h2 => by subst h1; exact HG5B.out h2))
      have HV6 := Lib.hid hv3; have HM6 := Lib.hid hm3; have HS6 := Lib.hid (HSq.out.trans hs3); have KX6 := Lib.hid (blk_kept KXq.out hs3.k (fun h => by have := HBM.out; omega))
      clear hv3 hm3 hs3 HV HMq HSq KXq HFK HRq
      go_wp2_with (fail)
      refine calls_of_args (args' := #[.slice (some ⟨g5, 0, none⟩) (n + 1) c5, .slice A3 (rowP n (powP ws (Lg y.f1) i (q + 1))).length c3]) (by rw [rowP_len]) ((join_calls n HN.out (sumP ws (Lg y.f1) i lo q) (powP ws (Lg y.f1) i (q + 1)) w6 g5 c5 A3 c3 HR6.out (Kd.V_mono HV6.out (fun k hk h => hk.2 (.inr h)))).mono ?_)
      rintro e w7 ⟨⟨mm, rfl, hmm⟩, hr7, hk7, hb7⟩
      have esum : rowP n (fun j => sumP ws (Lg y.f1) i lo q j ∨ powP ws (Lg y.f1) i (q + 1) j) = rowP n (sumP ws (Lg y.f1) i lo (q + 1)) := by have := sumP_step ws (Lg y.f1) i lo q HLQ.out; rw [HNN.out] at this; exact this
      rw [esum] at hr7
      have HMM := Lib.hid hmm
      have HR7 := Lib.hid hr7
      have HM7 := Lib.hid (HM6.out.kept hk7 (fun k h => .inr h) (fun h => h.elim HZB.out (fun h => HG5B.out h.symm)))
      have HS7 : Hid (Step bm w w7) := Lib.hid ⟨HS6.out.k.then_ hk7 (fun k h => .inr (by have := HG5.out; omega)), HS6.out.b.trans (hb7.mono (by have := HG5.out; have := HBM.out; omega))⟩
      have KX7 := Lib.hid (blk_kept KX6.out hk7 (fun h => by have := HG5.out; omega))
      have HV7 := Lib.hid (Kd.V_kept HV6.out hk7 (fun k h1 h2 => h1.2 (.inr h2)))
      clear hr7 hk7 hb7 hmm HR6 HM6 HS6 KX6 HV6 esum
      cases mm
      case true =>
       obtain ⟨jn, hj1, hj2, hj3⟩ := HMM.out.1 rfl
       have hmiss : miss (sumP ws (Lg y.f1) i lo (q + 1)) (n + 1) < miss (sumP ws (Lg y.f1) i lo q) (n + 1) := miss_lt (n + 1) (fun j _ ⟨p, h1, h2, h3⟩ => ⟨p, h1, by omega, h3⟩) ⟨jn, by omega, ⟨q + 1, by have := HLQ.out; omega, Nat.le_refl _, hj2⟩, hj3⟩
       have HMI := Lib.hid hmiss
       clear hj1 hj2 hj3 hmiss HMM
       go_wp2_with (fail)
       go_roundg (miss (sumP ws (Lg y.f1) i lo (q + 1)) (n + 1))
       case measure => have h1 := HMI.out; have h2 := HKQ.out; omega
       case rel => exact ⟨q + 1, A3, c3, rfl, by rw [hw], Lib.hid (by have := HLQ.out; omega), Lib.hid (.inl HM1.out), Lib.hid rfl, Lib.hid (by have h1 := HMI.out; have h2 := HBQ.out; omega), Lib.hid (Kd.V_mono HV7.out (fun k hk => hk.1)), HR7, HM7, HS7, KX7⟩
      case false =>
       have hno : ∀ j, j ≤ ws.length → powP ws (Lg y.f1) i (q + 1) j → sumP ws (Lg y.f1) i lo q j := fun j hj hp => Classical.byContradiction fun hc => by
        have := HMM.out.2 ⟨j, by have := HNN.out; omega, hp, hc⟩
        cases this
       have HNO := Lib.hid hno
       have e7 : rowP n (sumP ws (Lg y.f1) i lo (q + 1)) = rowP n (sumP ws (Lg y.f1) i lo q) := rowP_ext fun j hj => by
        constructor
        ·rintro ⟨p, h1, h2, h3⟩
         by_cases hp : p = q + 1
         ·subst hp; exact HNO.out j h3.2.1 h3
         ·exact ⟨p, h1, by omega, h3⟩
        ·rintro ⟨p, h1, h2, h3⟩; exact ⟨p, h1, by omega, h3⟩
       rw [e7] at HR7
       clear HMM e7 hno
       go_wp2_with (fail)
       have el : (rowL ws (TimesI (Lg y.f1) (lo : Int) x.f0.f3) i).length = n + 1 := by rw [rowL_len, HNN.out]
       have er : rowP n (sumP ws (Lg y.f1) i lo q) = rowL ws (TimesI (Lg y.f1) (lo : Int) x.f0.f3) i := by
        have := times_row (ws := ws) (L := Lg y.f1) (i := i) (lo := lo) (hi := x.f0.f3) (q := q) HLQ.out (fun p h1 h2 => HHQ.out.imp id (fun h => by omega)) (fun p h1 _ j h3 => sumP_stall HNO.out HLQ.out (p - q) p h1 (by omega) j h3)
        rw [HNN.out] at this
        exact this
       have hr := HR7.out
       rw [er] at hr
       go_ret
       refine ⟨some ⟨g5, 0, none⟩, c5, by rw [el]; rfl, R_view hr ⟨HG5B.out, HG5Z.out⟩, HM7.out.zone (fun k hk => .inl (.inl hk)), HS7.out⟩
     ·have b1 : (x.f0.f3 == -1) = false := by simpa using hm1
      have HM1 := Lib.hid hm1
      by_cases hlt : (q : Int) < x.f0.f3
      ·have b2 : decide ((q : Int) < x.f0.f3) = true := decide_eq_true hlt
       have HLT2 := Lib.hid hlt
       clear hm1 hlt
       have hw : wrap64 ((q : Int) + 1) = ((q + 1 : Nat) : Int) := by have h1 := HLO.out; have h2 := HBQ.out; have h3 := HN.out; unfold wrap64; omega
       obtain ⟨ad2, B4, b4, B6, b6, had, p0, p1, p2, p3, p4, p5, p6, hFK⟩ := kid_at (HST.out.trans HSq.out) (by have := HF.out; exact this) 0 (by rw [HXL.out]; omega)
       rw [show Pr.rd_T63 x.f2 ((0 : Nat) : Int) = y from HYY.out] at p0 p1 p2 p3 p4 p5 p6 hFK
       obtain rfl : ad2 = ad := (Option.some.inj had).symm
       have ea : ad2.add (0 * 7) = ad2 := by unfold Addr.add; simp
       rw [ea] at p0 p1 p2 p3 p4 p5 p6
       have HFK := Lib.hid hFK
       clear hFK
       have x3 : wr.cell? ⟨w.heap.size, 3, none⟩ = some (.int .i64 x.f0.f3) := (blk_cell KXq.out 3).trans rfl
       have x6 : wr.cell? ⟨w.heap.size, 6, none⟩ = some (.slice (some ad2) 1 c6) := (blk_cell KXq.out 6).trans rfl
       go_wp2_with (fail)
       clear p0 p1 p2 p3 p4 p5 p6 x3 x6 ea
       refine calls_of_args (args' := #[.pointer (some ⟨gm, 0, none⟩), NV y B4 b4 B6 b6, .slice Al (rowP ws.length (powP ws (Lg y.f1) i q)).length cl]) (by rw [rowP_len, HNN.out]) ((OnOk.call HY.out (fun k => Z k ∨ k = g5) wr (powP ws (Lg y.f1) i q) Al cl B4 b4 B6 b6 (HST.out.trans HSq.out) HMq.out (fun h => h.elim HZB.out (fun h => HG5B.out h.symm)) (fun k hk => hk.elim (fun h => Nat.lt_of_lt_of_le (HZ.out k h) HSq.out.size) (fun h => by rw [h]; exact Kd.R_lt HRq.out g5 rfl)) (by rw [HNN.out]; exact HV.out) HFK.out).mono ?_)
       rintro e w6 ⟨A3, c3, he, hv3, hm3, hs3⟩
       rw [powP_on, HNN.out] at he hv3
       rw [rowP_len] at he
       subst he
       have HR6 := Lib.hid (Kd.R_kept HRq.out hs3.k (fun k h1 h2 => by subst h1; exact HG5B.out h2))
       have HV6 := Lib.hid hv3; have HM6 := Lib.hid hm3; have HS6 := Lib.hid (HSq.out.trans hs3); have KX6 := Lib.hid (blk_kept KXq.out hs3.k (fun h => by have := HBM.out; omega))
       clear hv3 hm3 hs3 HV HMq HSq KXq HFK HRq
       go_wp2_with (fail)
       refine calls_of_args (args' := #[.slice (some ⟨g5, 0, none⟩) (n + 1) c5, .slice A3 (rowP n (powP ws (Lg y.f1) i (q + 1))).length c3]) (by rw [rowP_len]) ((join_calls n HN.out (sumP ws (Lg y.f1) i lo q) (powP ws (Lg y.f1) i (q + 1)) w6 g5 c5 A3 c3 HR6.out (Kd.V_mono HV6.out (fun k hk h => hk.2 (.inr h)))).mono ?_)
       rintro e w7 ⟨⟨mm, rfl, hmm⟩, hr7, hk7, hb7⟩
       have esum : rowP n (fun j => sumP ws (Lg y.f1) i lo q j ∨ powP ws (Lg y.f1) i (q + 1) j) = rowP n (sumP ws (Lg y.f1) i lo (q + 1)) := by have := sumP_step ws (Lg y.f1) i lo q HLQ.out; rw [HNN.out] at this; exact this
       rw [esum] at hr7
       have HMM := Lib.hid hmm
       have HR7 := Lib.hid hr7
       have HM7 := Lib.hid (HM6.out.kept hk7 (fun k h => .inr h) (fun h => h.elim HZB.out (fun h => HG5B.out h.symm)))
       have HS7 : Hid (Step bm w w7) := Lib.hid ⟨HS6.out.k.then_ hk7 (fun k h => .inr (by have := HG5.out; omega)), HS6.out.b.trans (hb7.mono (by have := HG5.out; have := HBM.out; omega))⟩
       have KX7 := Lib.hid (blk_kept KX6.out hk7 (fun h => by have := HG5.out; omega))
       have HV7 := Lib.hid (Kd.V_kept HV6.out hk7 (fun k h1 h2 => h1.2 (.inr h2)))
       clear hr7 hk7 hb7 hmm HR6 HM6 HS6 KX6 HV6 esum
       cases mm
       case true =>
        obtain ⟨jn, hj1, hj2, hj3⟩ := HMM.out.1 rfl
        have hmiss : miss (sumP ws (Lg y.f1) i lo (q + 1)) (n + 1) < miss (sumP ws (Lg y.f1) i lo q) (n + 1) := miss_lt (n + 1) (fun j _ ⟨p, h1, h2, h3⟩ => ⟨p, h1, by omega, h3⟩) ⟨jn, by omega, ⟨q + 1, by have := HLQ.out; omega, Nat.le_refl _, hj2⟩, hj3⟩
        have HMI := Lib.hid hmiss
        clear hj1 hj2 hj3 hmiss HMM
        go_wp2_with (fail)
        go_roundg (miss (sumP ws (Lg y.f1) i lo (q + 1)) (n + 1))
        case measure => have h1 := HMI.out; have h2 := HKQ.out; omega
        case rel => exact ⟨q + 1, A3, c3, rfl, by rw [hw], Lib.hid (by have := HLQ.out; omega), Lib.hid (.inr (by have := HLT2.out; omega)), Lib.hid rfl, Lib.hid (by have h1 := HMI.out; have h2 := HBQ.out; omega), Lib.hid (Kd.V_mono HV7.out (fun k hk => hk.1)), HR7, HM7, HS7, KX7⟩
       case false =>
        have hno : ∀ j, j ≤ ws.length → powP ws (Lg y.f1) i (q + 1) j → sumP ws (Lg y.f1) i lo q j := fun j hj hp => Classical.byContradiction fun hc => by
         have := HMM.out.2 ⟨j, by have := HNN.out; omega, hp, hc⟩
         cases this
        have HNO := Lib.hid hno
        have e7 : rowP n (sumP ws (Lg y.f1) i lo (q + 1)) = rowP n (sumP ws (Lg y.f1) i lo q) := rowP_ext fun j hj => by
         constructor
         ·rintro ⟨p, h1, h2, h3⟩
          by_cases hp : p = q + 1
          ·subst hp; exact HNO.out j h3.2.1 h3
          ·exact ⟨p, h1, by omega, h3⟩
         ·rintro ⟨p, h1, h2, h3⟩; exact ⟨p, h1, by omega, h3⟩
        rw [e7] at HR7
        clear HMM e7 hno
        go_wp2_with (fail)
        have el : (rowL ws (TimesI (Lg y.f1) (lo : Int) x.f0.f3) i).length = n + 1 := by rw [rowL_len, HNN.out]
        have er : rowP n (sumP ws (Lg y.f1) i lo q) = rowL ws (TimesI (Lg y.f1) (lo : Int) x.f0.f3) i := by
         have := times_row (ws := ws) (L := Lg y.f1) (i := i) (lo := lo) (hi := x.f0.f3) (q := q) HLQ.out (fun p h1 h2 => HHQ.out.imp id (fun h => by omega)) (fun p h1 _ j h3 => sumP_stall HNO.out HLQ.out (p - q) p h1 (by omega) j h3)
         rw [HNN.out] at this
         exact this
        have hr := HR7.out
        rw [er] at hr
        go_ret
        refine ⟨some ⟨g5, 0, none⟩, c5, by rw [el]; rfl, R_view hr ⟨HG5B.out, HG5Z.out⟩, HM7.out.zone (fun k hk => .inl (.inl hk)), HS7.out⟩
      ·have b2 : decide ((q : Int) < x.f0.f3) = false := decide_eq_false hlt
       have HLT2 := Lib.hid hlt
       have x3 : wr.cell? ⟨w.heap.size, 3, none⟩ = some (.int .i64 x.f0.f3) := (blk_cell KXq.out 3).trans rfl
       clear hm1 hlt
       go_wp2_with (fail)
       clear x3
       have el : (rowL ws (TimesI (Lg y.f1) (lo : Int) x.f0.f3) i).length = n + 1 := by rw [rowL_len, HNN.out]
       have er : rowP n (sumP ws (Lg y.f1) i lo q) = rowL ws (TimesI (Lg y.f1) (lo : Int) x.f0.f3) i := by
        have := times_row (ws := ws) (L := Lg y.f1) (i := i) (lo := lo) (hi := x.f0.f3) (q := q) HLQ.out (fun p h1 h2 => HHQ.out.imp id (fun h => by omega)) (fun p h1 h2 j h3 => ⟨p, h1, h2.elim (fun h => (HM1.out h).elim) (fun h => by have := HLT2.out; omega), h3⟩)
        rw [HNN.out] at this
        exact this
       have hr := HRq.out
       rw [er] at hr
       go_ret
       refine ⟨some ⟨g5, 0, none⟩, c5, by rw [el]; rfl, R_view hr ⟨HG5B.out, HG5Z.out⟩, HMq.out.zone (fun k hk => .inl (.inl hk)), HSq.out⟩
   case false =>
    clear HR2 HVl4
    go_wp2_with (fail)
    go_roundg (lo - (q + 1))
    case measure => have h1 := HLT.out; have h2 := HKQ.out; omega
    case rel => exact ⟨q + 1, A3, c3, rfl, by rw [hw], Lib.hid (by have := HLT.out; omega), Lib.hid rfl, HV4, HM4, HS4, KX4⟩
  ·have hq : lo = q := by have := HQL.out; omega
   subst hq
   have hlt2 : decide ((lo : Int) < (lo : Int)) = false := decide_eq_false (by omega)
   have hlt3 : decide (lo < lo) = false := decide_eq_false (by omega)
   have HVz := HV; have HM4 := HMq; have HS4 := HSq; have KX4 := KXq
   clear HV HMq HSq KXq
   go_wp2_with (fail)
   clear hlt2 hlt3
   clear hlt
   have HVy := Lib.hid (Kd.V_below HVz.out (Below.refl _ _)); clear HVz
   have hcl : slices_Clone_bool.f (rowP n (powP ws (Lg y.f1) i lo)) = some (rowP n (powP ws (Lg y.f1) i lo)) := by unfold slices_Clone_bool.f; rw [if_pos (by rw [rowP_len]; have := HN.out; omega)]
   refine calls_of_args (args' := #[.slice Al (rowP n (powP ws (Lg y.f1) i lo)).length cl]) (by rw [rowP_len]) ((slices_Clone_bool.calls Al cl _ _ wr (Kd.V_reads' HVy.out).2.2 (Kd.V_reads' HVy.out).2.1 hcl).mono ?_)
   clear hcl
   rintro e w5 ⟨v5, rfl, hr5, hb5⟩
   obtain ⟨g5, c5, rfl, hgb5, hgl5, _⟩ := Kd.R_form hr5 (by rw [rowP_len]; omega)
   rw [rowP_len] at hr5 ⊢
   have hr5' := R_at hr5
   have eone := sumP_one ws (Lg y.f1) i lo
   rw [HNN.out] at eone
   rw [eone] at hr5'
   have HG5 := Lib.hid (show w.heap.size < g5 by have := blk_lt KX4.out; omega)
   have HG5B := Lib.hid (show ¬ g5 = bm by have := HG5.out; have := HBM.out; omega)
   have HG5Z := Lib.hid (show ¬ Z g5 from fun hz => by have := HZ.out g5 hz; have := HG5.out; omega)
   have HR5 := Lib.hid hr5'
   have HM5 := Lib.hid ((HM4.out.zone (Z' := fun k => Z k ∨ k = g5) (fun k hk => hk.elim .inl (fun h => .inr (by omega)))).below hb5)
   have HS5 := Lib.hid (HS4.out.below hb5 (Nat.le_trans (Nat.le_of_lt HBM.out) HS4.out.size)); have KX5 := Lib.hid (blk_below KX4.out hb5)
   have HV5 := Lib.hid (Kd.V_mono (Kd.V_below HVy.out hb5) (ok' := fun k => k ≠ bm) (fun k hk => hk.1))
   clear hr5 hr5' hb5 hgb5 hgl5 HM4 HS4 KX4 HVy eone
   have x2 : w5.cell? ⟨w.heap.size, 2, none⟩ = some (.int .i64 (lo : Int)) := (blk_cell KX5.out 2).trans rfl
   go_wp2_with (fail)
   clear x2
   go_loopg [7, 10] (miss (sumP ws (Lg y.f1) i lo lo) (n + 1)) (fun kq v7 v10 w' => ∃ (q : Nat) (Al : Option Addr) (cl : Nat), v7 = .slice Al (n + 1) cl ∧ v10 = .int .i64 q ∧ Hid (lo ≤ q) ∧ Hid (x.f0.f3 = -1 ∨ (q : Int) ≤ x.f0.f3) ∧ Hid (kq = miss (sumP ws (Lg y.f1) i lo q) (n + 1)) ∧ Hid (q + miss (sumP ws (Lg y.f1) i lo q) (n + 1) ≤ lo + n + 1) ∧ Hid (Kd.V Kd.bool 4 w' 0 (fun k => k ≠ bm) (.slice Al (rowP n (powP ws (Lg y.f1) i q)).length cl) (rowP n (powP ws (Lg y.f1) i q))) ∧ Hid (Kd.R Kd.bool 4 w' g5 (fun k => k = g5) (.slice (some ⟨g5, 0, none⟩) (n + 1) c5) (rowP n (sumP ws (Lg y.f1) i lo q))) ∧ Hid (Memo Lg ws bm (fun k => Z k ∨ k = g5) w') ∧ Hid (Step bm w w') ∧ Hid (w'.heap[w.heap.size]? = some (.cells #[.int .i64 x.f0.f0, .int .i64 x.f0.f1, .int .i64 (lo : Int), .int .i64 x.f0.f3, .slice A4 x.f0.f4.length c4, .int .i64 x.f1, .slice A6 1 c6] 63 (0, 0))))
   case atStart => exact ⟨lo, Al, cl, rfl, rfl, Lib.hid (Nat.le_refl _), HHI, Lib.hid rfl, Lib.hid (by have := miss_all (sumP ws (Lg y.f1) i lo lo) (n + 1); omega), HV5, HR5, HM5, HS5, KX5⟩
   case round =>
    obtain ⟨q, Al, cl, rfl, rfl, HLQ, HHQ, HKQ, HBQ, HV, HRq, HMq, HSq, KXq⟩ := hrel
    clear HV5 HR5 HM5 HS5 KX5
    by_cases hm1 : x.f0.f3 = -1
    ·have b1 : (x.f0.f3 == -1) = true := by simpa using hm1
     have HM1 := Lib.hid hm1
     clear hm1
     have hw : wrap64 ((q : Int) + 1) = ((q + 1 : Nat) : Int) := by have h1 := HLO.out; have h2 := HBQ.out; have h3 := HN.out; unfold wrap64; omega
     obtain ⟨ad2, B4, b4, B6, b6, had, p0, p1, p2, p3, p4, p5, p6, hFK⟩ := kid_at (HST.out.trans HSq.out) (by have := HF.out; exact this) 0 (by rw [HXL.out]; omega)
     rw [show Pr.rd_T63 x.f2 ((0 : Nat) : Int) = y from HYY.out] at p0 p1 p2 p3 p4 p5 p6 hFK
     subst had
     have ea : ad2.add (0 * 7) = ad2 := by unfold Addr.add; simp
     rw [ea] at p0 p1 p2 p3 p4 p5 p6
     have HFK := Lib.hid hFK
     clear hFK
     have x3 : wr.cell? ⟨w.heap.size, 3, none⟩ = some (.int .i64 x.f0.f3) := (blk_cell KXq.out 3).trans rfl
     have x6 : wr.cell? ⟨w.heap.size, 6, none⟩ = some (.slice (some ad2) 1 c6) := (blk_cell KXq.out 6).trans rfl
     go_wp2_with (fail)
     clear p0 p1 p2 p3 p4 p5 p6 x3 x6 ea
     refine calls_of_args (args' := #[.pointer (some ⟨gm, 0, none⟩), NV y B4 b4 B6 b6, .slice Al (rowP ws.length (powP ws (Lg y.f1) i q)).length cl]) (by rw [rowP_len, HNN.out]) ((OnOk.call HY.out (fun k => Z k ∨ k = g5) wr (powP ws (Lg y.f1) i q) Al cl B4 b4 B6 b6 (HST.out.trans HSq.out) HMq.out (fun h => h.elim HZB.out (fun h => HG5B.out h.symm)) (fun k hk => hk.elim (fun h => Nat.lt_of_lt_of_le (HZ.out k h) HSq.out.size) (fun h => by rw [h]; exact Kd.R_lt HRq.out g5 rfl)) (by rw [HNN.out]; exact HV.out) HFK.out).mono ?_)
     rintro e w6 ⟨A3, c3, he, hv3, hm3, hs3⟩
     rw [powP_on, HNN.out] at he hv3
     rw [rowP_len] at he
     subst he
     have HR6 := Lib.hid (Kd.R_kept HRq.out hs3.k (fun k h1 h2 => by subst h1; exact HG5B.out h2))
     have HV6 := Lib.hid hv3; have HM6 := Lib.hid hm3; have HS6 := Lib.hid (HSq.out.trans hs3); have KX6 := Lib.hid (blk_kept KXq.out hs3.k (fun h => by have := HBM.out; omega))
     clear hv3 hm3 hs3 HV HMq HSq KXq HFK HRq
     go_wp2_with (fail)
     refine calls_of_args (args' := #[.slice (some ⟨g5, 0, none⟩) (n + 1) c5, .slice A3 (rowP n (powP ws (Lg y.f1) i (q + 1))).length c3]) (by rw [rowP_len]) ((join_calls n HN.out (sumP ws (Lg y.f1) i lo q) (powP ws (Lg y.f1) i (q + 1)) w6 g5 c5 A3 c3 HR6.out (Kd.V_mono HV6.out (fun k hk h => hk.2 (.inr h)))).mono ?_)
     rintro e w7 ⟨⟨mm, rfl, hmm⟩, hr7, hk7, hb7⟩
     have esum : rowP n (fun j => sumP ws (Lg y.f1) i lo q j ∨ powP ws (Lg y.f1) i (q + 1) j) = rowP n (sumP ws (Lg y.f1) i lo (q + 1)) := by have := sumP_step ws (Lg y.f1) i lo q HLQ.out; rw [HNN.out] at this; exact this
     rw [esum] at hr7
     have HMM := Lib.hid hmm
     have HR7 := Lib.hid hr7
     have HM7 := Lib.hid (HM6.out.kept hk7 (fun k h => .inr h) (fun h => h.elim HZB.out (fun h => HG5B.out h.symm)))
     have HS7 : Hid (Step bm w w7) := Lib.hid ⟨HS6.out.k.then_ hk7 (fun k h => .inr (by have := HG5.out; omega)), HS6.out.b.trans (hb7.mono (by have := HG5.out; have := HBM.out; omega))⟩
     have KX7 := Lib.hid (blk_kept KX6.out hk7 (fun h => by have := HG5.out; omega))
     have HV7 := Lib.hid (Kd.V_kept HV6.out hk7 (fun k h1 h2 => h1.2 (.inr h2)))
     clear hr7 hk7 hb7 hmm HR6 HM6 HS6 KX6 HV6 esum
     cases mm
     case true =>
      obtain ⟨jn, hj1, hj2, hj3⟩ := HMM.out.1 rfl
      have hmiss : miss (sumP ws (Lg y.f1) i lo (q + 1)) (n + 1) < miss (sumP ws (Lg y.f1) i lo q) (n + 1) := miss_lt (n + 1) (fun j _ ⟨p, h1, h2, h3⟩ => ⟨p, h1, by omega, h3⟩) ⟨jn, by omega, ⟨q + 1, by have := HLQ.out; omega, Nat.le_refl _, hj2⟩, hj3⟩
      have HMI := Lib.hid hmiss
      clear hj1 hj2 hj3 hmiss HMM
      go_wp2_with (fail)
      go_roundg (miss (sumP ws (Lg y.f1) i lo (q + 1)) (n + 1))
      case measure => have h1 := HMI.out; have h2 := HKQ.out; omega
      case rel => exact ⟨q + 1, A3, c3, rfl, by rw [hw], Lib.hid (by have := HLQ.out; omega), Lib.hid (.inl HM1.out), Lib.hid rfl, Lib.hid (by have h1 := HMI.out; have h2 := HBQ.out; omega), Lib.hid (Kd.V_mono HV7.out (fun k hk => hk.1)), HR7, HM7, HS7, KX7⟩
     case false =>
      have hno : ∀ j, j ≤ ws.length → powP ws (Lg y.f1) i (q + 1) j → sumP ws (Lg y.f1) i lo q j := fun j hj hp => Classical.byContradiction fun hc => by
       have := HMM.out.2 ⟨j, by have := HNN.out; omega, hp, hc⟩
       cases this
      have HNO := Lib.hid hno
      have e7 : rowP n (sumP ws (Lg y.f1) i lo (q + 1)) = rowP n (sumP ws (Lg y.f1) i lo q) := rowP_ext fun j hj => by
       constructor
       ·rintro ⟨p, h1, h2, h3⟩
        by_cases hp : p = q + 1
        ·subst hp; exact HNO.out j h3.2.1 h3
        ·exact ⟨p, h1, by omega, h3⟩
       ·rintro ⟨p, h1, h2, h3⟩; exact ⟨p, h1, by omega, h3⟩
      rw [e7] at HR7
      clear HMM e7 hno
      go_wp2_with (fail)
      have el : (rowL ws (TimesI (Lg y.f1) (lo : Int) x.f0.f3) i).length = n + 1 := by rw [rowL_len, HNN.out]
      have er : rowP n (sumP ws (Lg y.f1) i lo q) = rowL ws (TimesI (Lg y.f1) (lo : Int) x.f0.f3) i := by
       have := times_row (ws := ws) (L := Lg y.f1) (i := i) (lo := lo) (hi := x.f0.f3) (q := q) HLQ.out (fun p h1 h2 => HHQ.out.imp id (fun h => by omega)) (fun p h1 _ j h3 => sumP_stall HNO.out HLQ.out (p - q) p h1 (by omega) j h3)
       rw [HNN.out] at this
       exact this
      have hr := HR7.out
      rw [er] at hr
      go_ret
      refine ⟨some ⟨g5, 0, none⟩, c5, by rw [el]; rfl, R_view hr ⟨HG5B.out, HG5Z.out⟩, HM7.out.zone (fun k hk => .inl (.inl hk)), HS7.out⟩
    ·have b1 : (x.f0.f3 == -1) = false := by simpa using hm1
     have HM1 := Lib.hid hm1
     by_cases hlt : (q : Int) < x.f0.f3
     ·have b2 : decide ((q : Int) < x.f0.f3) = true := decide_eq_true hlt
      have HLT2 := Lib.hid hlt
      clear hm1 hlt
      have hw : wrap64 ((q : Int) + 1) = ((q + 1 : Nat) : Int) := by have h1 := HLO.out; have h2 := HBQ.out; have h3 := HN.out; unfold wrap64; omega
      obtain ⟨ad2, B4, b4, B6, b6, had, p0, p1, p2, p3, p4, p5, p6, hFK⟩ := kid_at (HST.out.trans HSq.out) (by have := HF.out; exact this) 0 (by rw [HXL.out]; omega)
      rw [show Pr.rd_T63 x.f2 ((0 : Nat) : Int) = y from HYY.out] at p0 p1 p2 p3 p4 p5 p6 hFK
      subst had
      have ea : ad2.add (0 * 7) = ad2 := by unfold Addr.add; simp
      rw [ea] at p0 p1 p2 p3 p4 p5 p6
      have HFK := Lib.hid hFK
      clear hFK
      have x3 : wr.cell? ⟨w.heap.size, 3, none⟩ = some (.int .i64 x.f0.f3) := (blk_cell KXq.out 3).trans rfl
      have x6 : wr.cell? ⟨w.heap.size, 6, none⟩ = some (.slice (some ad2) 1 c6) := (blk_cell KXq.out 6).trans rfl
      go_wp2_with (fail)
      clear p0 p1 p2 p3 p4 p5 p6 x3 x6 ea
      refine calls_of_args (args' := #[.pointer (some ⟨gm, 0, none⟩), NV y B4 b4 B6 b6, .slice Al (rowP ws.length (powP ws (Lg y.f1) i q)).length cl]) (by rw [rowP_len, HNN.out]) ((OnOk.call HY.out (fun k => Z k ∨ k = g5) wr (powP ws (Lg y.f1) i q) Al cl B4 b4 B6 b6 (HST.out.trans HSq.out) HMq.out (fun h => h.elim HZB.out (fun h => HG5B.out h.symm)) (fun k hk => hk.elim (fun h => Nat.lt_of_lt_of_le (HZ.out k h) HSq.out.size) (fun h => by rw [h]; exact Kd.R_lt HRq.out g5 rfl)) (by rw [HNN.out]; exact HV.out) HFK.out).mono ?_)
      rintro e w6 ⟨A3, c3, he, hv3, hm3, hs3⟩
      rw [powP_on, HNN.out] at he hv3
      rw [rowP_len] at he
      subst he
      have HR6 := Lib.hid (Kd.R_kept HRq.out hs3.k (fun k h1 h2 => by subst h1; exact HG5B.out h2))
      have HV6 := Lib.hid hv3; have HM6 := Lib.hid hm3; have HS6 := Lib.hid (HSq.out.trans hs3); have KX6 := Lib.hid (blk_kept KXq.out hs3.k (fun h => by have := HBM.out; omega))
      clear hv3 hm3 hs3 HV HMq HSq KXq HFK HRq
      go_wp2_with (fail)
      refine calls_of_args (args' := #[.slice (some ⟨g5, 0, none⟩) (n + 1) c5, .slice A3 (rowP n (powP ws (Lg y.f1) i (q + 1))).length c3]) (by rw [rowP_len]) ((join_calls n HN.out (sumP ws (Lg y.f1) i lo q) (powP ws (Lg y.f1) i (q + 1)) w6 g5 c5 A3 c3 HR6.out (Kd.V_mono HV6.out (fun k hk h => hk.2 (.inr h)))).mono ?_)
      rintro e w7 ⟨⟨mm, rfl, hmm⟩, hr7, hk7, hb7⟩
      have esum : rowP n (fun j => sumP ws (Lg y.f1) i lo q j ∨ powP ws (Lg y.f1) i (q + 1) j) = rowP n (sumP ws (Lg y.f1) i lo (q + 1)) := by have := sumP_step ws (Lg y.f1) i lo q HLQ.out; rw [HNN.out] at this; exact this
      rw [esum] at hr7
      have HMM := Lib.hid hmm
      have HR7 := Lib.hid hr7
      have HM7 := Lib.hid (HM6.out.kept hk7 (fun k h => .inr h) (fun h => h.elim HZB.out (fun h => HG5B.out h.symm)))
      have HS7 : Hid (Step bm w w7) := Lib.hid ⟨HS6.out.k.then_ hk7 (fun k h => .inr (by have := HG5.out; omega)), HS6.out.b.trans (hb7.mono (by have := HG5.out; have := HBM.out; omega))⟩
      have KX7 := Lib.hid (blk_kept KX6.out hk7 (fun h => by have := HG5.out; omega))
      have HV7 := Lib.hid (Kd.V_kept HV6.out hk7 (fun k h1 h2 => h1.2 (.inr h2)))
      clear hr7 hk7 hb7 hmm HR6 HM6 HS6 KX6 HV6 esum
      cases mm
      case true =>
       obtain ⟨jn, hj1, hj2, hj3⟩ := HMM.out.1 rfl
       have hmiss : miss (sumP ws (Lg y.f1) i lo (q + 1)) (n + 1) < miss (sumP ws (Lg y.f1) i lo q) (n + 1) := miss_lt (n + 1) (fun j _ ⟨p, h1, h2, h3⟩ => ⟨p, h1, by omega, h3⟩) ⟨jn, by omega, ⟨q + 1, by have := HLQ.out; omega, Nat.le_refl _, hj2⟩, hj3⟩
       have HMI := Lib.hid hmiss
       clear hj1 hj2 hj3 hmiss HMM
       go_wp2_with (fail)
       go_roundg (miss (sumP ws (Lg y.f1) i lo (q + 1)) (n + 1))
       case measure => have h1 := HMI.out; have h2 := HKQ.out; omega
       case rel => exact ⟨q + 1, A3, c3, rfl, by rw [hw], Lib.hid (by have := HLQ.out; omega), Lib.hid (.inr (by have := HLT2.out; omega)), Lib.hid rfl, Lib.hid (by have h1 := HMI.out; have h2 := HBQ.out; omega), Lib.hid (Kd.V_mono HV7.out (fun k hk => hk.1)), HR7, HM7, HS7, KX7⟩
      case false =>
       have hno : ∀ j, j ≤ ws.length → powP ws (Lg y.f1) i (q + 1) j → sumP ws (Lg y.f1) i lo q j := fun j hj hp => Classical.byContradiction fun hc => by
        have := HMM.out.2 ⟨j, by have := HNN.out; omega, hp, hc⟩
        cases this
       have HNO := Lib.hid hno
       have e7 : rowP n (sumP ws (Lg y.f1) i lo (q + 1)) = rowP n (sumP ws (Lg y.f1) i lo q) := rowP_ext fun j hj => by
        constructor
        ·rintro ⟨p, h1, h2, h3⟩
         by_cases hp : p = q + 1
         ·subst hp; exact HNO.out j h3.2.1 h3
         ·exact ⟨p, h1, by omega, h3⟩
        ·rintro ⟨p, h1, h2, h3⟩; exact ⟨p, h1, by omega, h3⟩
       rw [e7] at HR7
       clear HMM e7 hno
       go_wp2_with (fail)
       have el : (rowL ws (TimesI (Lg y.f1) (lo : Int) x.f0.f3) i).length = n + 1 := by rw [rowL_len, HNN.out]
       have er : rowP n (sumP ws (Lg y.f1) i lo q) = rowL ws (TimesI (Lg y.f1) (lo : Int) x.f0.f3) i := by
        have := times_row (ws := ws) (L := Lg y.f1) (i := i) (lo := lo) (hi := x.f0.f3) (q := q) HLQ.out (fun p h1 h2 => HHQ.out.imp id (fun h => by omega)) (fun p h1 _ j h3 => sumP_stall HNO.out HLQ.out (p - q) p h1 (by omega) j h3)
        rw [HNN.out] at this
        exact this
       have hr := HR7.out
       rw [er] at hr
       go_ret
       refine ⟨some ⟨g5, 0, none⟩, c5, by rw [el]; rfl, R_view hr ⟨HG5B.out, HG5Z.out⟩, HM7.out.zone (fun k hk => .inl (.inl hk)), HS7.out⟩
     ·have b2 : decide ((q : Int) < x.f0.f3) = false := decide_eq_false hlt
      have HLT2 := Lib.hid hlt
      have x3 : wr.cell? ⟨w.heap.size, 3, none⟩ = some (.int .i64 x.f0.f3) := (blk_cell KXq.out 3).trans rfl
      clear hm1 hlt
      go_wp2_with (fail)
      clear x3
      have el : (rowL ws (TimesI (Lg y.f1) (lo : Int) x.f0.f3) i).length = n + 1 := by rw [rowL_len, HNN.out]
      have er : rowP n (sumP ws (Lg y.f1) i lo q) = rowL ws (TimesI (Lg y.f1) (lo : Int) x.f0.f3) i := by
       have := times_row (ws := ws) (L := Lg y.f1) (i := i) (lo := lo) (hi := x.f0.f3) (q := q) HLQ.out (fun p h1 h2 => HHQ.out.imp id (fun h => by omega)) (fun p h1 h2 j h3 => ⟨p, h1, h2.elim (fun h => (HM1.out h).elim) (fun h => by have := HLT2.out; omega), h3⟩)
       rw [HNN.out] at this
       exact this
      have hr := HRq.out
      rw [er] at hr
      go_ret
      refine ⟨some ⟨g5, 0, none⟩, c5, by rw [el]; rfl, R_view hr ⟨HG5B.out, HG5Z.out⟩, HMq.out.zone (fun k hk => .inl (.inl hk)), HSq.out⟩
end Go.Proofs.YthocjdlcopmhiaaDoor.G
namespace Go.Proofs.YthocjdlcopmhiaaDoor.G
open Go.RowKit Go.Proofs.YthocjdlcopmhiaaDoorW.PrintWords Go.Proofs.YthocjdlcopmhiaaDoorW.PrintLast Go.Proofs.YthocjdlcopmhiaaDoorW.PrintMore
attribute [local go_sem] max2_int min2_int max_two min_two max_three min_three max_four min_four
set_option linter.unusedVariables false
set_option linter.unusedSimpArgs false
open GP (Cat Eps Pow)
inductive Lab (Lg : Int → List Int → Prop) : Pr.S63 → Prop
 | mk (x : Pr.S63) : 0 ≤ x.f1 → x.f1 < 4611686018427387904 → (∀ v, Lg x.f1 v ↔ LangE x.f0 v) → x.f2.map (·.f0) = x.f0.f4 → (∀ i : Nat, i < x.f2.length → Lab Lg (Pr.rd_T63 x.f2 i)) → Lab Lg x
inductive Wf : Pr.S24 → Prop
 | mk (x : Pr.S24) : (x.f0 = 5 → x.f4.length = 1 ∧ 0 ≤ x.f2 ∧ x.f2 ≤ 1000 ∧ (x.f3 = -1 ∨ x.f2 ≤ x.f3) ∧ x.f3 ≤ 1000) → (x.f0 = 3 ∨ x.f0 = 4 ∨ x.f0 = 5 → ∀ y ∈ x.f4, Wf y) → Wf x
theorem Lab.lg {Lg : Int → List Int → Prop} {x : Pr.S63} (h : Lab Lg x) (v : List Int) : Lg x.f1 v ↔ LangE x.f0 v := by
 cases h with
 | mk _ _ _ h _ _ => exact h v
theorem kid_rd {x : Pr.S63} (hm : x.f2.map (·.f0) = x.f0.f4) {i : Nat} (hi : i < x.f2.length) : x.f0.f4[i]? = some (Pr.rd_T63 x.f2 i).f0 := by
 rw [← hm, List.getElem?_map, List.getElem?_eq_getElem hi]
 unfold Pr.rd_T63
 rw [Int.toNat_natCast, List.getD_eq_getElem?_getD, List.getElem?_eq_getElem hi]
 rfl
theorem langA_iff : ∀ (l : List Pr.S24) (w : List Int), LangA l w ↔ ∃ (i : Nat) (y : Pr.S24), l[i]? = some y ∧ LangE y w
 | [], w => by simp [LangA]
 | x :: l, w => by
  simp only [LangA]
  rw [langA_iff l w]
  constructor
  ·rintro (h | ⟨i, y, h1, h2⟩)
   ·exact ⟨0, x, rfl, h⟩
   ·exact ⟨i + 1, y, h1, h2⟩
  ·rintro ⟨i, y, h1, h2⟩
   cases i with
   | zero => left; rw [List.getElem?_cons_zero] at h1; obtain rfl := Option.some.inj h1; exact h2
   | succ i => right; exact ⟨i, y, h1, h2⟩
theorem langS_snoc : ∀ (l : List Pr.S24) (y : Pr.S24) (w : List Int), LangS (l ++ [y]) w ↔ Cat (LangS l) (LangE y) w
 | [], y, w => by
  simp only [List.nil_append, LangS]
  constructor
  ·rintro ⟨u, v, rfl, h1, h2⟩
   rw [h2, List.append_nil]
   exact ⟨[], u, rfl, rfl, h1⟩
  ·rintro ⟨u, v, rfl, h1, h2⟩
   rw [h1, List.nil_append]
   exact ⟨v, [], by simp, h2, rfl⟩
 | x :: l, y, w => by
  simp only [List.cons_append, LangS]
  constructor
  ·rintro ⟨u, v, rfl, h1, h2⟩
   obtain ⟨a, b, rfl, h3, h4⟩ := (langS_snoc l y v).1 h2
   exact ⟨u ++ a, b, by simp, ⟨u, a, rfl, h1, h3⟩, h4⟩
  ·rintro ⟨u, v, rfl, ⟨a, b, rfl, h1, h2⟩, h3⟩
   exact ⟨a, b ++ v, by simp, h1, (langS_snoc l y (b ++ v)).2 ⟨b, v, rfl, h2, h3⟩⟩
section
variable {Lg : Int → List Int → Prop} {ws : List Int} {x : Pr.S63} {i : Nat}
theorem row1 (hl : ∀ v, Lg x.f1 v ↔ LangE x.f0 v) (hk : x.f0.f0 = 1) (hi : i ≤ ws.length) : rowP ws.length (fun j => False ∨ j = i) = rowL ws (Lg x.f1) i := rowP_ext fun j _ => by
 rw [to_congr (M := fun w => w = []) (fun w => by rw [hl, langE_eq, hk]; simp), to_eps ws i j hi]
 simp
theorem row2 (hl : ∀ v, Lg x.f1 v ↔ LangE x.f0 v) (hk : x.f0.f0 = 2) : (∀ j, To ws (Lg x.f1) i j ↔ (i < ws.length ∧ ws.getD i 0 = x.f0.f1 ∧ j = i + 1)) := fun j => by
 rw [to_congr (M := fun w => w = [x.f0.f1]) (fun w => by rw [hl, langE_eq, hk]; simp), to_sym]
theorem row2_yes (hl : ∀ v, Lg x.f1 v ↔ LangE x.f0 v) (hk : x.f0.f0 = 2) (h1 : i < ws.length) (h2 : ws.getD i 0 = x.f0.f1) : rowP ws.length (fun j => False ∨ j = i + 1) = rowL ws (Lg x.f1) i := rowP_ext fun j _ => by
 rw [row2 hl hk j]
 exact ⟨fun h => ⟨h1, h2, h.elim (fun h => h.elim) id⟩, fun h => .inr h.2.2⟩
theorem row2_no (hl : ∀ v, Lg x.f1 v ↔ LangE x.f0 v) (hk : x.f0.f0 = 2) (h : ¬ (i < ws.length ∧ ws.getD i 0 = x.f0.f1)) : rowP ws.length (fun _ => False) = rowL ws (Lg x.f1) i := rowP_ext fun j _ => by
 rw [row2 hl hk j]
 exact ⟨fun h => h.elim, fun h1 => h ⟨h1.1, h1.2.1⟩⟩
theorem row0 (hl : ∀ v, Lg x.f1 v ↔ LangE x.f0 v) (h1 : x.f0.f0 ≠ 1) (h2 : x.f0.f0 ≠ 2) (h3 : x.f0.f0 ≠ 3) (h4 : x.f0.f0 ≠ 4) (h5 : x.f0.f0 ≠ 5) : rowP ws.length (fun _ => False) = rowL ws (Lg x.f1) i := rowP_ext fun j _ => by
 refine ⟨fun h => h.elim, fun ⟨_, _, h⟩ => ?_⟩
 rw [hl, langE_eq] at h
 simp [h1, h2, h3, h4, h5] at h
def altP (Lg : Int → List Int → Prop) (ws : List Int) (x : Pr.S63) (i q : Nat) (j : Nat) : Prop := ∃ p, p < q ∧ To ws (Lg (Pr.rd_T63 x.f2 p).f1) i j
theorem altP_zero (n : Nat) : rowP n (fun _ => False) = rowP n (altP Lg ws x i 0) := rowP_ext fun j _ => ⟨fun h => h.elim, fun ⟨p, h, _⟩ => by omega⟩
theorem altP_step (n q : Nat) : rowP n (fun j => altP Lg ws x i q j ∨ To ws (Lg (Pr.rd_T63 x.f2 q).f1) i j) = rowP n (altP Lg ws x i (q + 1)) := rowP_ext fun j _ => by
 constructor
 ·rintro (⟨p, h1, h2⟩ | h)
  ·exact ⟨p, by omega, h2⟩
  ·exact ⟨q, by omega, h⟩
 ·rintro ⟨p, h1, h2⟩
  by_cases hp : p = q
  ·subst hp; exact .inr h2
  ·exact .inl ⟨p, by omega, h2⟩
theorem row4 (hl : ∀ v, Lg x.f1 v ↔ LangE x.f0 v) (hk : x.f0.f0 = 4) (hm : x.f2.map (·.f0) = x.f0.f4) (hkl : ∀ q : Nat, q < x.f2.length → Lab Lg (Pr.rd_T63 x.f2 q)) : rowP ws.length (altP Lg ws x i x.f2.length) = rowL ws (Lg x.f1) i := rowP_ext fun j _ => by
 rw [to_congr (M := LangA x.f0.f4) (fun w => by rw [hl, langE_eq, hk]; simp)]
 constructor
 ·rintro ⟨p, h1, h2, h3, h4⟩
  exact ⟨h2, h3, (langA_iff _ _).2 ⟨p, _, kid_rd hm h1, ((hkl p h1).lg _).1 h4⟩⟩
 ·rintro ⟨h1, h2, h3⟩
  obtain ⟨p, y, h4, h5⟩ := (langA_iff _ _).1 h3
  have hp : p < x.f2.length := by
   have := (List.getElem?_eq_some_iff.1 h4).1
   rw [← hm, List.length_map] at this
   exact this
  rw [kid_rd hm hp] at h4
  obtain rfl := Option.some.inj h4
  exact ⟨p, hp, h1, h2, ((hkl p hp).lg _).2 h5⟩
def seqP (ws : List Int) (x : Pr.S63) (i q : Nat) (j : Nat) : Prop := To ws (LangS (x.f0.f4.take q)) i j
theorem seqP_zero (n : Nat) (hi : i ≤ ws.length) : rowP n (fun j => False ∨ j = i) = rowP n (seqP ws x i 0) := rowP_ext fun j _ => by
 unfold seqP
 rw [List.take_zero, to_congr (M := fun w => w = []) (fun w => by simp only [LangS]), to_eps ws i j hi]
 simp
theorem seqP_step (hm : x.f2.map (·.f0) = x.f0.f4) (hkl : ∀ q : Nat, q < x.f2.length → Lab Lg (Pr.rd_T63 x.f2 q)) {q : Nat} (hq : q < x.f2.length) : onL ws (Lg (Pr.rd_T63 x.f2 q).f1) (seqP ws x i q) = rowP ws.length (seqP ws x i (q + 1)) := rowP_ext fun j _ => by
 have h1 := kid_rd hm hq
 have h2 : x.f0.f4.take (q + 1) = x.f0.f4.take q ++ [(Pr.rd_T63 x.f2 q).f0] := by
  have hql := (List.getElem?_eq_some_iff.1 h1).1
  rw [List.take_succ_eq_append_getElem hql]
  congr 2
  exact (List.getElem?_eq_some_iff.1 h1).2
 unfold seqP
 rw [h2, to_congr (M := Cat (LangS (x.f0.f4.take q)) (Lg (Pr.rd_T63 x.f2 q).f1)) (fun w => by
  rw [langS_snoc]
  exact GP.Cat.congr (fun _ => Iff.rfl) (fun v => ((hkl q hq).lg v).symm) w), to_cat]
 constructor
 ·rintro ⟨m, _, h3, h4⟩; exact ⟨m, h3, h4⟩
 ·rintro ⟨m, h3, h4⟩; exact ⟨m, h3.2.1, h3, h4⟩
theorem row3 (hl : ∀ v, Lg x.f1 v ↔ LangE x.f0 v) (hk : x.f0.f0 = 3) (hm : x.f2.map (·.f0) = x.f0.f4) : rowP ws.length (seqP ws x i x.f2.length) = rowL ws (Lg x.f1) i := rowP_ext fun j _ => by
 rw [to_congr (L := Lg x.f1) (M := LangS x.f0.f4) (fun w => by rw [hl, langE_eq, hk]; simp)]
 unfold seqP
 rw [List.take_of_length_le (by rw [← hm, List.length_map]; exact Nat.le_refl _)]
theorem row5 (hl : ∀ v, Lg x.f1 v ↔ LangE x.f0 v) (hk : x.f0.f0 = 5) (hm : x.f2.map (·.f0) = x.f0.f4) (hkl : ∀ q : Nat, q < x.f2.length → Lab Lg (Pr.rd_T63 x.f2 q)) (h1 : x.f2.length = 1) : rowL ws (TimesI (Lg (Pr.rd_T63 x.f2 0).f1) x.f0.f2 x.f0.f3) i = rowL ws (Lg x.f1) i := rowL_congr (fun w => by
 have h2 := kid_rd hm (i := 0) (by omega)
 rw [hl, langE_eq, hk]
 simp only [show (5 : Int) ≠ 1 by decide, show (5 : Int) ≠ 2 by decide, show (5 : Int) ≠ 3 by decide, show (5 : Int) ≠ 4 by decide, false_and, true_and, false_or]
 cases hf : x.f0.f4 with
 | nil => rw [hf] at h2; cases h2
 | cons y l =>
  rw [hf, List.getElem?_cons_zero] at h2
  have h3 := Option.some.inj h2
  simp only [LangR]
  have h4 : ∀ v, Lg (Pr.rd_T63 x.f2 0).f1 v ↔ LangE y v := fun v => by rw [h3]; exact (hkl 0 (by omega)).lg v
  have h5 : Lg (Pr.rd_T63 x.f2 0).f1 = LangE y := funext fun v => propext (h4 v)
  rw [h5]) i
end
set_option maxRecDepth 100000 in
theorem Memo.put {Lg : Int → List Int → Prop} {ws : List Int} {bm : Nat} {Z : Nat → Prop} {w : World} (hm : Memo Lg ws bm Z w) {id : Int} {i : Nat} (h0 : 0 ≤ id) (h1 : id < 4611686018427387904) (hi : i ≤ ws.length) (hn : ws.length < 1048576) {A : Option Addr} {c : Nat} (hV : RowV bm Z w A c (rowL ws (Lg id) i)) :
  ∃ w', (Instr.mapUpdate 58 (.map (some bm)) (key2 id (i : Int)) (.slice A (rowL ws (Lg id) i).length c)).run Tryd.prog w = .ok () w' ∧ Memo Lg ws bm Z w' ∧ Step bm w w' ∧ RowV bm Z w' A c (rowL ws (Lg id) i) := by
 have hlt := hm.lt
 obtain ⟨es, clock, hb, hg⟩ := hm
 have hkeys : KeysOk 79 es := fun e he => by
  obtain ⟨id, j, A, c, e1, e2, e3, e4, e5, e6⟩ := hg e he
  rw [e1]
  exact keyOf2 id j (wf64 e2 e3) (wf64 (by omega) (by omega))
 obtain ⟨kl, hkl⟩ := keyOf2 id (i : Int) (wf64 h0 h1) (wf64 (by omega) (by omega))
 obtain ⟨es', clock', w', hr, ht, hb', he, _⟩ := put_run (val := .slice A (rowL ws (Lg id) i).length c) K2 Tryd.underlying58 hb hkeys hkl
 have hgr := ht.grown
 have hk : Kept w w' (fun k => k = bm) := Kept.of_grown hgr (Kept.refl w _) (fun k hk => .inl (by injection hk with h; exact h.symm))
 have hV' : RowV bm Z w' A c (rowL ws (Lg id) i) := Kd.V_kept hV hk (fun k h1 h2 => h1.1 h2)
 refine ⟨w', hr, ⟨es', clock', hb', fun e hem => ?_⟩, ⟨hk, pw_below_grown (Below.refl bm w) (some bm) (Nat.le_of_lt hlt) hgr (fun k hk => by injection hk with h; omega)⟩, hV'⟩
 rcases he e hem with h2 | ⟨h2, h3⟩
 ·obtain ⟨id, j, A, c, e1, e2, e3, e4, e5, e6⟩ := hg e h2
  exact ⟨id, j, A, c, e1, e2, e3, e4, e5, Kd.V_kept e6 hk (fun k h1 h2 => h1.1 h2)⟩
 ·exact ⟨id, i, A, c, h2, h0, h1, hi, h3, hV'⟩
end Go.Proofs.YthocjdlcopmhiaaDoor.G
namespace Go.Proofs.YthocjdlcopmhiaaDoor.G
open Go.RowKit Go.Proofs.YthocjdlcopmhiaaDoorW.PrintWords Go.Proofs.YthocjdlcopmhiaaDoorW.PrintLast Go.Proofs.YthocjdlcopmhiaaDoorW.PrintMore
attribute [local go_sem] max2_int min2_int max_two min_two max_three min_three max_four min_four
set_option linter.unusedVariables false
set_option linter.unusedSimpArgs false
abbrev KU : Kd Int := Kd.int .u64
theorem cell_below {w w' : World} {p : Addr} {v : Value} (h : w.cell? p = some v) (hb : Below w.heap.size w w') : w'.cell? p = some v := (hb.cell (World.block_lt_of_cell? w p h)).trans h
def Bd (w0 w : World) (g : Nat) (Z : Nat → Prop) (n : Int) (syms : List Int) (rows : List (List Int)) : Prop :=
 (∃ v1 v2, w.heap[g]? = some (.cells #[.int .i64 n, v1, v2] 50 (0, 0)) ∧ Kd.R (Kd.int .i64) 3 w w0.heap.size Z v1 syms ∧ Kd.S (Kd.slice 77 KU) 52 w w0.heap.size Z v2 rows) ∧ Z g ∧ ∀ k, Z k → w0.heap.size ≤ k ∧ k < w.heap.size
section
variable {w0 w w' : World} {g : Nat} {Z S : Nat → Prop} {n : Int} {syms : List Int} {rows : List (List Int)}
theorem Bd.kept (h : Bd w0 w g Z n syms rows) (hk : Kept w w' S) (hS : ∀ k, Z k → ¬ S k) : Bd w0 w' g Z n syms rows := by
 obtain ⟨⟨v1, v2, h1, h2, h3⟩, h4, h5⟩ := h
 exact ⟨⟨v1, v2, blk_kept h1 hk (hS g h4), Kd.R_kept h2 hk hS, Kd.S_kept h3 hk hS⟩, h4, fun k hz => ⟨(h5 k hz).1, Nat.lt_of_lt_of_le (h5 k hz).2 hk.1⟩⟩
theorem Bd.below (h : Bd w0 w g Z n syms rows) (hb : Below w.heap.size w w') : Bd w0 w' g Z n syms rows := h.kept (Kept.of_below hb (fun _ => False)) (fun _ _ h => h)
theorem Bd.new (h : Bd w0 w g Z n syms rows) : ∀ k, w.heap.size ≤ k → ¬ Z k := fun k hk hz => by have := (h.2.2 k hz).2; omega
theorem Bd.lend (h : Bd w0 w g Z n syms rows) (i : Int) (h0 : 0 ≤ i) (h1 : i < rows.length) :
  ∃ v1 g2 c2 u, w.heap[g]? = some (.cells #[.int .i64 n, v1, .slice (some ⟨g2, 0, none⟩) rows.length c2] 50 (0, 0)) ∧ w.cell? ⟨g2, i.toNat, none⟩ = some u ∧
   Kd.R KU 77 w w0.heap.size (fun k => some k = u.ownBlock) u (rows.getD i.toNat []) ∧ (∀ k, some k = u.ownBlock → Z k) ∧
   ∀ w' r ok, Kept w w' (fun k => some k = u.ownBlock) → Kd.R KU 77 w' w0.heap.size ok u r → Bd w0 w' g Z n syms (rows.set i.toNat r) := by
 obtain ⟨⟨v1, v2, hb, hR, hS⟩, h4, h5⟩ := h
 obtain ⟨g2, c2, rfl, hg2, hlt2, cells2, hcells2⟩ := Kd.S_form hS (by omega)
 obtain ⟨oki, c, hcl, hM, hcc, hoki, hH⟩ := Kd.S_lend hS [] i h0 (by omega)
 obtain ⟨u, rfl, hu⟩ := hM
 have hu2 := Kd.R_tight rfl hu
 have hcell := hcc 0 u rfl
 rw [show (Kd.slice 77 KU).sz = 1 from rfl, Nat.mul_one, Nat.add_zero] at hcell
 have hmem : ∀ k, some k = u.ownBlock → oki k := fun k hk => hu.1 k hk.symm
 refine ⟨v1, g2, c2, u, hb, hcell, hu2, fun k hk => (hoki k (hmem k hk)).1, fun w' r ok hk hr => ?_⟩
 have hne : ∀ k, some k = u.ownBlock → k ≠ g := fun k hk he => Kd.R_ne hu2 hb (by decide) (by rw [← he]; exact hk)
 have hne1 : ∀ k, some k = u.ownBlock → some k ≠ v1.ownBlock := fun k hk he => by
  obtain ⟨cells, hc⟩ := Kd.R_typed hR k he.symm
  exact Kd.R_ne hu2 hc (by decide) hk
 refine ⟨⟨v1, _, blk_kept hb hk (fun h => hne g h rfl), ?_, ?_⟩, h4, fun k hz => ⟨(h5 k hz).1, Nat.lt_of_lt_of_le (h5 k hz).2 hk.1⟩⟩
 ·exact Kd.R_mono (Kd.R_kept (Kd.R_tight rfl hR) hk (fun k h1 h2 => hne1 k h2 h1)) (fun k hk => hR.1 k hk.symm)
 ·have hH2 := Kd.H_step (w1 := w') hH (fun k _ hn hlt => hk.2 k hlt (fun h => hn (hmem k h)))
  exact Kd.H_back hH2 (x' := r) ⟨u, rfl, Kd.R_tight rfl hr⟩ hmem
end
def linkL (k : Nat) (yf : List Int) : List Int → List (List Int) → Option (List (List Int))
 | [], rows => some rows
 | i :: l, rows => if 0 ≤ i then if i < (rows.length : Int) then (Pr.glush_set_join.f k (rows.getD i.toNat []) yf).bind fun r => linkL k yf l (rows.set i.toNat r) else none else none
def linkF (k : Nat) (rows : List (List Int)) (xl yf : List Int) : Option (List (List Int)) := (Pr.glush_set_list.f k xl).bind fun l => linkL k yf l rows
def RL.T : Bool × List (List Nat × List Nat) := (true, [([], []), ([0], [0]), ([1], [1]), ([2], [2]), ([], []), ([3, 4], [3, 4]), ([5], [5]), ([], []), ([7], [7]), ([6, 8], [6, 8])])
def RL.B : List Nat := [0, 1, 3, 7, 0, 31, 63, 0, 128, 511]
theorem RL.tab : rtab .any (opsOf Tryd.f45 4) = RL.T := by kernel_rfl
theorem RL.bits : waitsOk RL.T.2 RL.B = true := by kernel_rfl
set_option maxHeartbeats 4000000 in
set_option maxRecDepth 100000 in
theorem link_calls (k : Nat) (w0 w : World) (g : Nat) (Z : Nat → Prop) (n : Int) (syms : List Int) (rows rows' : List (List Int)) (b1 b2 : Bool) (A1 A2 A3 A4 : Option Addr) (n1 c1 c2 c3 n4 c4 : Nat) (xl yf : List Int)
  (hb : Bd w0 w g Z n syms rows) (htab : HTab w0) (hB : Below w0.heap.size w0 w) (hx : Kd.V KU 77 w 0 (fun k => ¬ Z k) (.slice A2 xl.length c2) xl) (hy : Kd.V KU 77 w 0 (fun k => ¬ Z k) (.slice A3 yf.length c3) yf) (h : linkF k rows xl yf = some rows') :
  Calls Tryd.prog 45 #[.pointer (some ⟨g, 0, none⟩), .agg #[.bool b1, .slice A1 n1 c1, .slice A2 xl.length c2], .agg #[.bool b2, .slice A3 yf.length c3, .slice A4 n4 c4]] w fun e w' => e = .returned (.tuple #[]) ∧ Bd w0 w' g Z n syms rows' ∧ Below w0.heap.size w0 w' ∧ Kept w w' Z := by
 obtain ⟨l, hl, hL⟩ := Option.bind_eq_some_iff.1 h
 clear h
 have hu54 := Tryd.underlying54
 have HT := Lib.hid htab; have HBd := Lib.hid hb; have HB := Lib.hid hB; have HX := Lib.hid hx; have HY := Lib.hid hy; have HL := Lib.hid hl; have HLL := Lib.hid hL
 clear htab hb hB hx hy hl hL
 go_enter Tryd.func45, Tryd.ntmps45
 go_wp2_with (fail)
 have HB2 := below_alloc (below_alloc (Below.refl w.heap.size w) (.cells #[.bool b1, .slice A1 n1 c1, .slice A2 xl.length c2] 54)) (.cells #[.bool b2, .slice A3 yf.length c3, .slice A4 n4 c4] 54)
 have KY : ((w.alloc (.cells #[.bool b1, .slice A1 n1 c1, .slice A2 xl.length c2] 54)).alloc (.cells #[.bool b2, .slice A3 yf.length c3, .slice A4 n4 c4] 54)).heap[w.heap.size + 1]? = some (.cells #[.bool b2, .slice A3 yf.length c3, .slice A4 n4 c4] 54 (0, 0)) := by
  have := blk_new (w.alloc (.cells #[.bool b1, .slice A1 n1 c1, .slice A2 xl.length c2] 54)) (.cells #[.bool b2, .slice A3 yf.length c3, .slice A4 n4 c4] 54); simpa using this
 generalize (w.alloc (.cells #[.bool b1, .slice A1 n1 c1, .slice A2 xl.length c2] 54)).alloc (.cells #[.bool b2, .slice A3 yf.length c3, .slice A4 n4 c4] 54) = wA at HB2 KY ⊢
 have HBA := below_step HB.out HB2
 refine (Pr.glush_set_list.calls k A2 c2 xl l wA (Kd.F_now (Kd.V_at (Kd.V_below HX.out HB2)).2.2) (Kd.V_at HX.out).2.1 (HT.out.below HBA) HL.out).mono ?_
 rintro e w1 ⟨v0, rfl, hv, hb1⟩
 obtain ⟨Al, cl, rfl⟩ := Kd.R_slice hv
 have hZ1 : ∀ j, w.heap.size ≤ j → ¬ Z j := HBd.out.new
 have HZ := Lib.hid hZ1; clear hZ1
 have HV := Lib.hid (Kd.R_mono (ok' := fun j => ¬ Z j) (Kd.R_bound hv) (fun j hj => HZ.out j (Nat.le_trans HB2.size hj.2.1))); clear hv
 have HBw := Lib.hid (below_step HB2 hb1)
 have HB1 := Lib.hid (below_step HBA hb1)
 have HBd1 := Lib.hid (HBd.out.below HBw.out)
 have HY1 := Lib.hid (Kd.V_below HY.out HBw.out)
 have KY1 := Lib.hid (blk_below KY hb1)
 clear KY HBA HB2 hb1 HX HBd HT HL HB HY
 have hlen : l.length ≤ 9223372036854775807 := (Kd.R_reads' HV.out).2.2.2.1
 have HLEN := Lib.hid hlen; clear hlen
 go_wp2_with (fail)
 go_loopg [12] l.length (fun kq v12 w' => ∃ (j : Nat) (rowsj : List (List Int)), v12 = .int .i64 j ∧ Hid (j ≤ l.length) ∧ Hid (kq = l.length - j) ∧ Hid (linkL k yf (l.drop j) rowsj = some rows') ∧ Hid (Bd w0 w' g Z n syms rowsj) ∧ Hid (Kept w1 w' Z) ∧ Hid (Below w0.heap.size w0 w'))
 case atStart => exact ⟨0, rows, rfl, Lib.hid (Nat.zero_le _), Lib.hid rfl, HLL, HBd1, Lib.hid (Kept.refl _ _), HB1⟩
 case round =>
  obtain ⟨j, rowsj, rfl, HJ, HQ, HM, HBj, HKj, HBW⟩ := hrel
  have HVj := Lib.hid (Kd.R_kept HV.out HKj.out (fun _ h1 h2 => h1 h2))
  by_cases hlt : j < l.length
  ·have hd : l.drop j = l[j] :: l.drop (j + 1) := List.drop_eq_getElem_cons hlt
   have hm := HM.out
   rw [hd] at hm
   unfold linkL at hm
   by_cases h0 : 0 ≤ l[j]
   case neg => rw [if_neg h0] at hm; cases hm
   rw [if_pos h0] at hm
   by_cases h1 : l[j] < (rowsj.length : Int)
   case neg => rw [if_neg h1] at hm; cases hm
   rw [if_pos h1] at hm
   obtain ⟨r, hj, hrest⟩ := Option.bind_eq_some_iff.1 hm
   have HJN := Lib.hid hj; have HRE := Lib.hid hrest; clear hm hj hrest hd HM
   obtain ⟨adl, eal, hcl⟩ := Kd.at_int (Kd.R_reads' HVj.out).2.2 (j : Int) (by omega) (by omega)
   subst eal
   have hrd : rd l (j : Int) = l[j] := by unfold rd; rw [List.getD_eq_getElem?_getD, Int.toNat_natCast, List.getElem?_eq_getElem hlt]; rfl
   rw [hrd, Int.toNat_natCast] at hcl
   clear hrd
   generalize hx : l[j] = x at hcl h0 h1 HRE HJN
   clear hx
   have hlt1 : decide (j < l.length) = true := decide_eq_true hlt
   have hlt2 : decide ((j : Int) < (l.length : Int)) = true := decide_eq_true (by omega)
   have HLT := Lib.hid hlt; clear hlt
   have hp0 : (0 ≤ (j : Int)) = True := eq_true (by omega)
   have hp1 : ((j : Int) < (l.length : Int)) = True := eq_true (by have := HLT.out; omega)
   obtain ⟨v1, g2, cc2, u, hbk, hcu, hRu, hZu, hback⟩ := HBj.out.lend x h0 h1
   have hc2 : wr.cell? ⟨g, 2, none⟩ = some (.slice (some ⟨g2, 0, none⟩) rowsj.length cc2) := (blk_cell hbk 2).trans rfl
   have KYj := Lib.hid (blk_kept KY1.out HKj.out (HZ.out _ (Nat.le_succ _)))
   have hcy : wr.cell? ⟨w.heap.size + 1, 1, none⟩ = some (.slice A3 yf.length c3) := (blk_cell KYj.out 1).trans rfl
   have HYj := Lib.hid (Kd.V_kept HY1.out HKj.out (fun _ h1 h2 => h1 h2))
   have HRU := Lib.hid hRu; have HZU := Lib.hid hZu; have HBACK := Lib.hid hback
   clear hRu hZu hback hbk
   have hx0 : (0 ≤ x) = True := eq_true h0
   have hx1 : (x < (rowsj.length : Int)) = True := eq_true h1
   clear h0 h1
   go_wp2_with (fail)
   refine start_ (n := 10) (S := fun w' => w'.cell? ⟨g, 2, none⟩ = some (.slice (some ⟨g2, 0, none⟩) rowsj.length cc2) ∧ w'.cell? ⟨g2, x.toNat, none⟩ = some u ∧ w'.cell? ⟨w.heap.size + 1, 1, none⟩ = some (.slice A3 yf.length c3)) (ds := [9]) (S.um 10 0) (by kernel_rfl) rfl rfl ⟨hc2, hcu, hcy⟩ (fun hHeld => ?_); refine with_tabW RL.tab RL.bits (fun HT_ HW_ => ?_)
   refine S.p 10 0 16 1 HT_.out rfl rfl ?_
   refine S.p 10 1 17 3 HT_.out rfl rfl ?_
   refine S.p 10 2 18 7 HT_.out rfl rfl ?_
   refine S.p 10 4 20 23 HT_.out rfl rfl ?_
   refine S.p 10 7 23 151 HT_.out rfl rfl ?_
   refine S.t 10 3 19 159 HT_.out HW_.out rfl rfl hHeld ?_
   refine S.p 10 5 21 191 HT_.out rfl rfl ?_
   refine S.t 10 6 22 255 HT_.out HW_.out rfl rfl hHeld ?_
   refine S.t 10 8 24 511 HT_.out HW_.out rfl rfl hHeld ?_
   refine last_ (i := 9) (N := some 25) (S.um 10 1023) rfl rfl (one_of HT_.out (by kernel_rfl)) (by decide) (fun K hK => ?_)
   refine S.g Tryd.func32 #[u, .slice A3 yf.length c3] rfl rfl ?_
   (with_reducible refine (Pr.glush_set_join.calls k (fun k => some k = u.ownBlock) u (rowsj.getD x.toNat []) A3 c3 yf r w0 wr.drew (below_drew1 HBW.out) (Kd.R_drew HRU.out) ?hr1 (Kd.V_at HYj.out).2.1 HJN.out).mono ?_)
   case hr1 => exact fun W_ hk => Kd.F_now (Kd.V_at (Kd.V_kept HYj.out (show Kept wr W_ _ from hk) (fun _ h1 h2 => h1 (HZU.out _ h2)))).2.2
   rintro e w3 ⟨rfl, hr3, hb3, hk3⟩
   refine ⟨_, rfl, ?_⟩
   have hk3' : Kept wr w3 (fun k => some k = u.ownBlock) := hk3
   have HB3 := Lib.hid (HBACK.out w3 r _ hk3' hr3)
   have HK3 := Lib.hid (HKj.out.then_ hk3' (fun k hk => .inl (HZU.out k hk)))
   have HBW3 := Lib.hid hb3
   clear hr3 hb3 hk3 hk3' HBACK
   refine hK.out _ _ ?_
   clear hK K
   refine S.w 25 ?_
   refine done_ (done_of HT_.out (by kernel_rfl)) ?_; clear HT_ HW_ hHeld
   have hw : wrap64 ((j : Int) + 1) = ((j + 1 : Nat) : Int) := by have h1 := HLT.out; have h2 := HLEN.out; unfold wrap64; omega
   clear hc2 hcu hcy hcl hx0 hx1 hlt1 hlt2 hp0 hp1
   go_wp2_with (fail)
   go_roundg (l.length - (j + 1))
   case measure => have h1 := HLT.out; have h2 := HQ.out; omega
   case rel => exact ⟨j + 1, rowsj.set x.toNat r, by rw [hw], Lib.hid HLT.out, Lib.hid rfl, HRE, HB3, HK3, HBW3⟩
  ·have hlt1 : decide (j < l.length) = false := decide_eq_false hlt
   have hlt2 : decide ((j : Int) < (l.length : Int)) = false := decide_eq_false (by omega)
   have hj : j = l.length := by have := HJ.out; omega
   subst hj
   have hm := HM.out
   rw [List.drop_length] at hm
   have hrr : rowsj = rows' := Option.some.inj hm
   subst hrr
   clear hm
   go_wp2_with (fail)
   go_end0
   exact ⟨rfl, HBj.out, HBW.out, (Kept.of_below HBw.out Z).then_ HKj.out (fun _ h => .inl h)⟩
end Go.Proofs.YthocjdlcopmhiaaDoor.G
namespace Go.Proofs.YthocjdlcopmhiaaDoor.G
open Go.RowKit Go.Proofs.YthocjdlcopmhiaaDoorW.PrintWords Go.Proofs.YthocjdlcopmhiaaDoorW.PrintLast Go.Proofs.YthocjdlcopmhiaaDoorW.PrintMore
attribute [local go_sem] max2_int min2_int max_two min_two max_three min_three max_four min_four
set_option linter.unusedVariables false
set_option linter.unusedSimpArgs false
def nw (n : Int) : Nat := ((n + 63) / 64).toNat
def freshF (n : Int) : List Int := List.replicate (nw n) 0
theorem nw_eq (n : Int) (h0 : 0 ≤ n) : ((n + 64 - 1) / 64 : Int).toNat = nw n := by unfold nw; congr 1; omega
set_option maxHeartbeats 400000 in
theorem fresh_calls (g : Nat) (n : Int) (w : World) (hc : w.cell? ⟨g, 0, none⟩ = some (.int .i64 n)) (hn0 : 0 ≤ n) (hn1 : n ≤ 512) :
  Calls Tryd.prog 29 #[.pointer (some ⟨g, 0, none⟩)] w fun e w' => ∃ v0_ : Value, e = .returned v0_ ∧ Kd.R KU 77 w' w.heap.size (fun _ => True) v0_ (freshF n) ∧ Below w.heap.size w w' := by
 go_enter Tryd.func29, Tryd.ntmps29
 go_wp2_with (first | ((with_reducible refine gate_dst (N := 10) rfl ?_); refine Kd.R_make KU w.heap.size 77 rfl (N := 10) rfl 52 _ _ rfl ((n + 64 - 1) / 64) ?hx ?hy Tryd.underlying52 (.int .u64 0) 8 (by kernel_rfl) rfl (by decide) (by decide) 0 (ok := fun _ => True) (okp := fun _ => True) rfl (fun _ hk => hk) trivial (by omega) (by omega) (Below.refl _ _) (Nat.le_refl _) ?_; (case hx => rfl); (case hy => rfl); intro v1 w1 ho1 hb1 hg1 hn1; have HO1 := Lib.hid ho1; have HB1 := Lib.hid hb1; clear ho1 hb1 hg1 hn1))
 go_ret
 refine ⟨_, rfl, ?_, HB1.out⟩
 have := HO1.out
 rw [nw_eq n hn0] at this
 exact this
theorem V_of_R {α : Type} {d : Kd α} {e base b' : Nat} {ok : Nat → Prop} {w : World} {A : Option Addr} {n c : Nat} {xs : List α} (h : Kd.R d e w base ok (.slice A n c) xs) : Kd.V d e w b' ok (.slice A n c) xs := by
 have h2 := Kd.R_reads' h
 have e1 := h2.1
 subst e1
 exact Kd.V_mk h2.2.1 (Kd.R_F h)
theorem R_len {α : Type} {d : Kd α} {e b c n m : Nat} {ok : Nat → Prop} {w : World} {A : Option Addr} {xs : List α} (h : n = m) (hV : Kd.R d e w b ok (.slice A n c) xs) : Kd.R d e w b ok (.slice A m c) xs := h ▸ hV
theorem R_up {e b b' : Nat} {ok : Nat → Prop} {w : World} {v : Value} {xs : List Int} (h : Kd.R KU e w b ok v xs) (hb : ∀ k, ok k → b' ≤ k) : Kd.R KU e w b' (fun k => b' ≤ k) v xs := Kd.R_raise (b := b) (fun _ _ _ _ h => h) (Kd.R_mono h hb) (fun k hk => hb k (h.1 k hk))
theorem R_up2 {e b b' : Nat} {ok ok' : Nat → Prop} {w : World} {v : Value} {xs : List Int} (h : Kd.R KU e w b ok v xs) (hb : ∀ k, ok k → b' ≤ k ∧ ok' k) : Kd.R KU e w b' ok' v xs := Kd.R_raise (b := b) (fun _ _ _ _ h => h) (Kd.R_mono h (fun k hk => (hb k hk).2)) (fun k hk => (hb k (h.1 k hk)).1)
abbrev C3 (w : World) (g : Nat) (v0 v1 v2 : Value) : Prop := w.cell? ⟨g, 0, none⟩ = some v0 ∧ w.cell? ⟨g, 1, none⟩ = some v1 ∧ w.cell? ⟨g, 2, none⟩ = some v2 ∧ w.frozen? ⟨g, 0, none⟩ = false ∧ w.frozen? ⟨g, 1, none⟩ = false ∧ w.frozen? ⟨g, 2, none⟩ = false
theorem cells3 {w : World} {g : Nat} {t : TypeId} {v0 v1 v2 : Value} (h : w.heap[g]? = some (.cells #[v0, v1, v2] t (0, 0))) : C3 w g v0 v1 v2 := ⟨(blk_cell h 0).trans rfl, (blk_cell h 1).trans rfl, (blk_cell h 2).trans rfl, blk_frozen h 0, blk_frozen h 1, blk_frozen h 2⟩
abbrev st3 (w : World) (g : Nat) (v0 v1 v2 : Value) : World := ((w.setCell ⟨g, 0, none⟩ v0).setCell ⟨g, 1, none⟩ v1).setCell ⟨g, 2, none⟩ v2
theorem st3_blk {w : World} {g : Nat} {t : TypeId} {z0 z1 z2 v0 v1 v2 : Value} (h : w.heap[g]? = some (.cells #[z0, z1, z2] t (0, 0))) : (st3 w g v0 v1 v2).heap[g]? = some (.cells #[v0, v1, v2] t (0, 0)) := blk_put (blk_put (blk_put h 0 _ rfl) 1 _ rfl) 2 _ rfl
theorem st3_kept {w w1 : World} {g : Nat} {S : Nat → Prop} (h : Kept w w1 S) (hg : S g ∨ w.heap.size ≤ g) (v0 v1 v2 : Value) : Kept w (st3 w1 g v0 v1 v2) S := ((h.setCell (p := ⟨g, 0, none⟩) hg v0).setCell (p := ⟨g, 1, none⟩) hg v1).setCell (p := ⟨g, 2, none⟩) hg v2
theorem st3_below {w w1 : World} {g B : Nat} (h : Below B w w1) (hg : B ≤ g) (v0 v1 v2 : Value) : Below B w (st3 w1 g v0 v1 v2) := ((h.setCell (p := ⟨g, 0, none⟩) hg v0).setCell (p := ⟨g, 1, none⟩) hg v1).setCell (p := ⟨g, 2, none⟩) hg v2
theorem st3_self {w : World} {g : Nat} (v0 v1 v2 : Value) : Kept w (st3 w g v0 v1 v2) (fun k => k = g) := st3_kept (S := fun k => k = g) (Kept.refl w _) (.inl rfl) v0 v1 v2
set_option maxHeartbeats 400000 in
theorem none_calls (g : Nat) (n : Int) (b : Bool) (w : World) (hc : w.cell? ⟨g, 0, none⟩ = some (.int .i64 n)) (hn0 : 0 ≤ n) (hn1 : n ≤ 512) :
  Calls Tryd.prog 28 #[.pointer (some ⟨g, 0, none⟩), .bool b] w fun e w' => ∃ v1 v2 : Value, e = .returned (.agg #[.bool b, v1, v2]) ∧ Kd.R KU 77 w' w.heap.size (fun k => some k ≠ v2.ownBlock) v1 (freshF n) ∧ Kd.R KU 77 w' w.heap.size (fun k => some k ≠ v1.ownBlock) v2 (freshF n) ∧ Below w.heap.size w w' := by
 have hu54 := Tryd.underlying54
 have hlt := World.block_lt_of_cell? w _ hc
 have HC := Lib.hid hc; clear hc
 go_enter Tryd.func28, Tryd.ntmps28
 go_wp2_with (fail)
 have HBA := below_alloc (Below.refl w.heap.size w) (.cells #[.bool false, .slice none 0 0, .slice none 0 0] 54)
 have KA := blk_new w (.cells #[.bool false, .slice none 0 0, .slice none 0 0] 54)
 generalize w.alloc (.cells #[.bool false, .slice none 0 0, .slice none 0 0] 54) = wA at HBA KA ⊢
 refine (fresh_calls g n wA (cell_below HC.out HBA) hn0 hn1).mono ?_
 rintro e w1 ⟨v1, rfl, hv1, hb1⟩
 obtain ⟨A1, c1, rfl⟩ := Kd.R_slice hv1
 have HC1 := Lib.hid (cell_below (cell_below HC.out HBA) hb1)
 have KA1 := Lib.hid (blk_below KA hb1)
 have HV1 := Lib.hid hv1; clear hv1 KA
 go_wp2_with (fail)
 refine (fresh_calls g n w1 HC1.out hn0 hn1).mono ?_
 rintro e w2 ⟨v2, rfl, hv2, hb2⟩
 obtain ⟨A2, c2, rfl⟩ := Kd.R_slice hv2
 have KA2 := Lib.hid (blk_below KA1.out hb2)
 have HV12 := Lib.hid (Kd.R_below HV1.out hb2)
 have hap1 : ∀ k, some k = (Value.slice A1 (freshF n).length c1).ownBlock → some k ≠ (Value.slice A2 (freshF n).length c2).ownBlock := fun k h1 h2 => by
  have h3 := Kd.R_lt HV1.out k h1.symm
  have h4 := Kd.R_base hv2 k h2.symm
  omega
 have HAP := Lib.hid hap1; clear hap1
 have HBB := Lib.hid (below_step (below_step HBA hb1) hb2)
 have HSZ := Lib.hid HBA.size
 have HV2 := Lib.hid hv2; have HSZ1 := Lib.hid (Nat.le_trans HBA.size hb1.size)
 obtain ⟨d0, d1, d2, f0, f1, f2⟩ := cells3 KA2.out
 clear hv2 hb1 hb2 HV1 KA1 HC1 HBA
 go_wp2_with (fail)
 refine bodyPost_ret (results_cell_row rfl _ _ w.heap.size 54 #[.bool b, .slice A1 (freshF n).length c1, .slice A2 (freshF n).length c2] (0, 0) _ rfl (st3_blk KA2.out) Tryd.underlying54 rfl (by kernel_rfl)) rfl ?_
 have hself := st3_self (w := w2) (g := w.heap.size) (.bool b) (.slice A1 (freshF n).length c1) (.slice A2 (freshF n).length c2)
 refine ⟨_, _, rfl, ?_, ?_, st3_below HBB.out (Nat.le_refl _) _ _ _⟩
 ·refine Kd.R_lower (Kd.R_mono (Kd.R_kept (Kd.R_mono (Kd.R_types (Kd.R_tight rfl HV12.out) KA2.out (by decide)) (ok' := fun k => (some k = (Value.slice A1 (freshF n).length c1).ownBlock) ∧ k ≠ w.heap.size) (fun _ h => h)) hself (fun k h1 h2 => h1.2 h2)) (fun k h => HAP.out k h.1)) HSZ.out
 ·refine Kd.R_lower (Kd.R_mono (Kd.R_kept (Kd.R_mono (Kd.R_types (Kd.R_tight rfl HV2.out) KA2.out (by decide)) (ok' := fun k => (some k = (Value.slice A2 (freshF n).length c2).ownBlock) ∧ k ≠ w.heap.size) (fun _ h => h)) hself (fun k h1 h2 => h1.2 h2)) (fun k h h2 => HAP.out k h2 h.1)) HSZ1.out
end Go.Proofs.YthocjdlcopmhiaaDoor.G
